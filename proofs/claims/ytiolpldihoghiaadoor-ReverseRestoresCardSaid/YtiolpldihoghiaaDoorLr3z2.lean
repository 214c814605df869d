/- cycle.Apply; images are compared; the statement's image: the contracts. The engine, part 29: reading steps of regions that act, one by one. Over any program. The statement's sides: the contract. The statements' sides: their cycle, and what it makes of an image, in plain Lean. The reference's Cycle: the contract. Printed by tools/cy4.py. ReverseUndoes: the walk. ReverseCycles: the walk. -/
import Derived.Test.YtiolpldihoghiaaDoorLr3z1
import Derived.Test.YtiolpldihoghiaaDoorC9
import Derived.Test.YtiolpldihoghiaaDoorC10
namespace Go.Proofs.YtiolpldihoghiaaDoor
open Go.RowKit
set_option linter.unusedVariables false
set_option linter.unusedSimpArgs false
set_option maxHeartbeats 8000000
theorem ca_Ap7 {k : FuncId} {vs : List Value} {w1 : World} {v : Value} (h : Ret Tryd.prog k vs w1 (fun u _ => u = v) := by first | exact imCheck_any _ _ _ _ _ (by omega) (H.fact _ mem_auto) | exact sameVol_any _ _ _ _ _ _ _ _ (H.fact _ mem_auto) (H.fact _ mem_auto)) : Ret Tryd.prog k vs w1 (fun u _ => u = v) := h
/-- What Apply of a cycle answers. -/
def capSp (im : List (List Sec)) (y : Cyc) : List (List Sec) × Int := if imErr im ≠ 0 then ([], imErr im) else if cycErr y (sizesOf im) ≠ 0 then ([], cycErr y (sizesOf im)) else ((applySp im y.writes).1, (applySp im y.writes).2.2)
def CapRet (w : World) (r : List (List Sec) × Int) (v : Value) (w' : World) : Prop :=
  ∃ v1, v = .tuple #[v1, .int .i64 r.2] ∧ FreshG gSec 61 71 8 w r.1 v1 w'
theorem cap_bad {w w' : World} {r : List (List Sec) × Int} {e : Int} (h : r = ([], e)) : CapRet w r (.tuple #[.slice none 0 0, .int .i64 e]) w' := by
  subst h; exact ⟨_, rfl, freshG_nil⟩
theorem capSp_good {im : List (List Sec)} {y : Cyc} (ho : ImOk im) (hd : ∀ x ∈ y.writes, ∀ s ∈ x.data, SecOk s) : ImOk (capSp im y).1 ∧ (capSp im y).1.length ≤ 8 ∧ ∀ v ∈ (capSp im y).1, v.length ≤ 4096 := by
  unfold capSp
  split
  · exact ⟨fun l hl => (by cases hl), by simp, fun l hl => (by cases hl)⟩
  · split
    · exact ⟨fun l hl => (by cases hl), by simp, fun l hl => (by cases hl)⟩
    · exact applySp_good ho hd
theorem cycApply_any (M : Nat → Prop) (im : List (List Sec)) (y : Cyc) (A A1 A2 : Option Addr) (c c1 c2 : Nat) (w : World) (hM : ∀ b, M b → b < w.heap.size) (hl : im.length ≤ 1000000) (hF : Stab w M (Row kVol 1 A im)) (h1 : Stab w M (Row (kInt .i64) 1 A1 y.pos)) (h2 : Stab w M (Row kWr 3 A2 y.writes)) :
    Ret Tryd.prog 23 [.slice A im.length c, .agg [.int .i64 y.base, .int .i64 y.number, .int .i64 y.time, .slice A1 y.pos.length c1, .slice A2 y.writes.length c2].toArray] w (CapRet w (capSp im y)) := by
  refine enter (M := M) (F := [Row kVol 1 A im, Row (kInt .i64) 1 A1 y.pos, Row kWr 3 A2 y.writes]) Tryd.func23 rfl rfl rfl (by simpa using ⟨hF, h1, h2⟩) fun H => ?_
  repeat' (first | (apply l_rd; exact rd_go; rfl) | (apply q_rd; exact rd_go; rfl) | refine stp ?_ | refine bk_o rfl ?_ | refine c_true ⟨rfl, rfl⟩ ?_ | refine c_false ⟨rfl, rfl⟩ ?_ | (apply l_rdg; rfl; rfl; rfl; exact rd_go; rfl) | refine l_skip rfl rfl rfl rfl ?_ | (apply q_rdg; rfl; rfl; rfl; exact rd_go; rfl) | refine q_skip rfl rfl rfl rfl ?_ | (refine q_end ?_; clear H; intro _ H) | ((first | refine l_st (z_box H ?_) | refine l_st (s_alloc H rfl ?_)); clear H; intro _ _ _ H) | (refine l_st (t_build0 H rfl ?_); clear H; intro _ _ _ _ H) | (refine l_st (z_sto H ?_); clear H; intro _ H) | ((first | refine c_cond ⟨rfl, rfl⟩ ?_ ?_ | refine c_ncond ⟨rfl, rfl⟩ ?_ ?_ | refine l_split rfl rfl ?_ ?_ | refine q_split rfl rfl ?_ ?_ | refine l_nsplit rfl rfl ?_ ?_ | refine q_nsplit rfl rfl ?_ ?_) <;> intro _ <;> try (exfalso; omega)) | (refine l_st (k_call1 evs_auto H ca_Ap7 rfl ?_); clear H; intro _ _ H) | (refine l_st (k_callg1 evs_auto rfl rfl rfl H ca_Ap7 rfl ?_); clear H; intro _ _ H) | refine kq_call1 evs_auto H (fun _ H => ca_Ap7) rfl ?_ | refine kq_callg1 evs_auto rfl rfl rfl H (fun _ H => ca_Ap7) rfl ?_)
  · have hbad : imErr im ≠ 0 := by assumption
    exact ret2 (v := .slice _ _ _) (v' := .int _ _) H rfl rfl rfl rfl (cap_bad (by unfold capSp; rw [if_pos hbad]))
  have hz : imErr im = 0 := by omega
  obtain ⟨z1, z2, z3⟩ := sizesErr_zero hz
  have hsl := sizesOf_len im
  have H1 := H.own_nil 3 1
  clear H; have H := H1; clear H1
  refine c_loopk [21, 7] [0, 3, 19, 20] (fun n vs w' => ∃ (i : Nat) (A7 : Option Addr) (c7 b : Nat), vs = [.int .i64 i, .slice A7 (sizesOf (im.take i)).length c7] ∧ i ≤ im.length ∧ n = im.length - i ∧
      Hp w M w' [⟨_, [.int .i64 y.base, .int .i64 y.number, .int .i64 y.time, .slice A1 y.pos.length c1, .slice A2 y.writes.length c2], 45⟩] [⟨.slice A7 (sizesOf (im.take i)).length c7, 3, 1, (sizesOf (im.take i)).length, (sizesOf (im.take i)).map (Value.int .i64)⟩] [Row kVol 1 A im, Row (kInt .i64) 1 A1 y.pos, Row kWr 3 A2 y.writes]) _ [_, _, _, _] rfl
      ⟨0, none, 0, 0, rfl, Nat.zero_le _, rfl, H⟩ ?_
  clear H
  rintro n _ E0 w2 ⟨i, A7, c7, _, rfl, hi, rfl, H⟩
  by_cases hi' : i < im.length
  · obtain ⟨A2', c2', _, _, H1⟩ := H.openS (dd := kSec) (sz := 8) (A := A) (xs := im) (i := i) mem_auto hi'
    clear H; have H := H1; clear H1
    have hvb := vol_len hF _ (List.getElem_mem hi')
    have hls : (sizesOf (im.take i)).length = i := by simp [sizesOf]; omega
    repeat' (first | (apply l_rd; exact rd_go; rfl) | (apply q_rd; exact rd_go; rfl) | refine stp ?_ | refine bk_o rfl ?_ | refine c_true ⟨rfl, rfl⟩ ?_ | refine c_false ⟨rfl, rfl⟩ ?_ | (apply l_rdg; rfl; rfl; rfl; exact rd_go; rfl) | refine l_skip rfl rfl rfl rfl ?_ | (apply q_rdg; rfl; rfl; rfl; exact rd_go; rfl) | refine q_skip rfl rfl rfl rfl ?_ | (refine q_end ?_; clear H; intro _ H) | ((first | refine l_st (z_box H ?_) | refine l_st (s_alloc H rfl ?_)); clear H; intro _ _ _ H) | (refine l_st (t_build0 H rfl ?_); clear H; intro _ _ _ _ H) | (refine l_st (z_sto H ?_); clear H; intro _ H) | ((first | refine c_cond ⟨rfl, rfl⟩ ?_ ?_ | refine c_ncond ⟨rfl, rfl⟩ ?_ ?_ | refine l_split rfl rfl ?_ ?_ | refine q_split rfl rfl ?_ ?_ | refine l_nsplit rfl rfl ?_ ?_ | refine q_nsplit rfl rfl ?_ ?_) <;> intro _ <;> try (exfalso; omega)) | (refine l_st (k_call1 evs_auto H ca_Ap7 rfl ?_); clear H; intro _ _ H) | (refine l_st (k_callg1 evs_auto rfl rfl rfl H ca_Ap7 rfl ?_); clear H; intro _ _ H) | refine kq_call1 evs_auto H (fun _ H => ca_Ap7) rfl ?_ | refine kq_callg1 evs_auto rfl rfl rfl H (fun _ H => ca_Ap7) rfl ?_)
    refine l_appi (j := 0) (xs := sizesOf (im.take i)) (im[i].length : Int) H rfl rfl ⟨rfl, rfl⟩ rfl (fun _ => ⟨rfl, rfl⟩) (by omega) rfl ?_
    rw [sizesOf_snoc hi']
    clear H; intro A8 c8 w8 _ H
    repeat' (first | (apply l_rd; exact rd_go; rfl) | (apply q_rd; exact rd_go; rfl) | refine stp ?_ | refine bk_o rfl ?_ | refine c_true ⟨rfl, rfl⟩ ?_ | refine c_false ⟨rfl, rfl⟩ ?_ | (apply l_rdg; rfl; rfl; rfl; exact rd_go; rfl) | refine l_skip rfl rfl rfl rfl ?_ | (apply q_rdg; rfl; rfl; rfl; exact rd_go; rfl) | refine q_skip rfl rfl rfl rfl ?_ | (refine q_end ?_; clear H; intro _ H) | ((first | refine l_st (z_box H ?_) | refine l_st (s_alloc H rfl ?_)); clear H; intro _ _ _ H) | (refine l_st (t_build0 H rfl ?_); clear H; intro _ _ _ _ H) | (refine l_st (z_sto H ?_); clear H; intro _ H) | ((first | refine c_cond ⟨rfl, rfl⟩ ?_ ?_ | refine c_ncond ⟨rfl, rfl⟩ ?_ ?_ | refine l_split rfl rfl ?_ ?_ | refine q_split rfl rfl ?_ ?_ | refine l_nsplit rfl rfl ?_ ?_ | refine q_nsplit rfl rfl ?_ ?_) <;> intro _ <;> try (exfalso; omega)) | (refine l_st (k_call1 evs_auto H ca_Ap7 rfl ?_); clear H; intro _ _ H) | (refine l_st (k_callg1 evs_auto rfl rfl rfl H ca_Ap7 rfl ?_); clear H; intro _ _ H) | refine kq_call1 evs_auto H (fun _ H => ca_Ap7) rfl ?_ | refine kq_callg1 evs_auto rfl rfl rfl H (fun _ H => ca_Ap7) rfl ?_)
    exact lk_n rfl (n' := im.length - (i + 1)) (by omega) ⟨i + 1, A8, c8, 0, rfl, hi', rfl, H.weak (List.Sublist.refl _) (List.Sublist.refl _) (by simp)⟩
  · have hi2 : im.take i = im := List.take_of_length_le (by omega)
    rw [hi2] at H
    have g3 := H.own_row0 (j := 0) rfl (sizesOf_rng (vol_len hF)) rfl (by rw [sizesOf_len]; omega)
    have g1 : Stab _ (fun _ => False) (Row (kInt .i64) 1 A1 y.pos) := (H.fact _ mem_auto).mono fun _ h => h.elim
    have g2 : Stab _ (fun _ => False) (Row kWr 3 A2 y.writes) := (H.fact _ mem_auto).mono fun _ h => h.elim
    rw [hi2]
    repeat' (first | (apply l_rd; exact rd_go; rfl) | (apply q_rd; exact rd_go; rfl) | refine stp ?_ | refine bk_o rfl ?_ | refine c_true ⟨rfl, rfl⟩ ?_ | refine c_false ⟨rfl, rfl⟩ ?_ | (apply l_rdg; rfl; rfl; rfl; exact rd_go; rfl) | refine l_skip rfl rfl rfl rfl ?_ | (apply q_rdg; rfl; rfl; rfl; exact rd_go; rfl) | refine q_skip rfl rfl rfl rfl ?_ | (refine q_end ?_; clear H; intro _ H) | ((first | refine l_st (z_box H ?_) | refine l_st (s_alloc H rfl ?_)); clear H; intro _ _ _ H) | (refine l_st (t_build0 H rfl ?_); clear H; intro _ _ _ _ H) | (refine l_st (z_sto H ?_); clear H; intro _ H) | ((first | refine c_cond ⟨rfl, rfl⟩ ?_ ?_ | refine c_ncond ⟨rfl, rfl⟩ ?_ ?_ | refine l_split rfl rfl ?_ ?_ | refine q_split rfl rfl ?_ ?_ | refine l_nsplit rfl rfl ?_ ?_ | refine q_nsplit rfl rfl ?_ ?_) <;> intro _ <;> try (exfalso; omega)) | (refine l_st (k_call1 evs_auto H ca_Ap7 rfl ?_); clear H; intro _ _ H) | (refine l_st (k_callg1 evs_auto rfl rfl rfl H ca_Ap7 rfl ?_); clear H; intro _ _ H) | refine kq_call1 evs_auto H (fun _ H => ca_Ap7) rfl ?_ | refine kq_callg1 evs_auto rfl rfl rfl H (fun _ H => ca_Ap7) rfl ?_)
    refine l_st (k_call1 evs_auto H (cyc_any (fun _ => False) y (sizesOf im) A1 A2 A7 c1 c2 c7 _ (fun _ h => h.elim) g1 g2 g3) rfl ?_)
    clear H g1 g2 g3; intro _ _ H
    repeat' (first | (apply l_rd; exact rd_go; rfl) | (apply q_rd; exact rd_go; rfl) | refine stp ?_ | refine bk_o rfl ?_ | refine c_true ⟨rfl, rfl⟩ ?_ | refine c_false ⟨rfl, rfl⟩ ?_ | (apply l_rdg; rfl; rfl; rfl; exact rd_go; rfl) | refine l_skip rfl rfl rfl rfl ?_ | (apply q_rdg; rfl; rfl; rfl; exact rd_go; rfl) | refine q_skip rfl rfl rfl rfl ?_ | (refine q_end ?_; clear H; intro _ H) | ((first | refine l_st (z_box H ?_) | refine l_st (s_alloc H rfl ?_)); clear H; intro _ _ _ H) | (refine l_st (t_build0 H rfl ?_); clear H; intro _ _ _ _ H) | (refine l_st (z_sto H ?_); clear H; intro _ H) | ((first | refine c_cond ⟨rfl, rfl⟩ ?_ ?_ | refine c_ncond ⟨rfl, rfl⟩ ?_ ?_ | refine l_split rfl rfl ?_ ?_ | refine q_split rfl rfl ?_ ?_ | refine l_nsplit rfl rfl ?_ ?_ | refine q_nsplit rfl rfl ?_ ?_) <;> intro _ <;> try (exfalso; omega)) | (refine l_st (k_call1 evs_auto H ca_Ap7 rfl ?_); clear H; intro _ _ H) | (refine l_st (k_callg1 evs_auto rfl rfl rfl H ca_Ap7 rfl ?_); clear H; intro _ _ H) | refine kq_call1 evs_auto H (fun _ H => ca_Ap7) rfl ?_ | refine kq_callg1 evs_auto rfl rfl rfl H (fun _ H => ca_Ap7) rfl ?_)
    · have hbad : cycErr y (sizesOf im) ≠ 0 := by assumption
      exact ret2 (v := .slice _ _ _) (v' := .int _ _) H rfl rfl rfl rfl (cap_bad (by unfold capSp; rw [if_neg (by omega), if_pos hbad]))
    have hgood : ¬ cycErr y (sizesOf im) ≠ 0 := by assumption
    refine l_st (k_call evs_auto H (imApply_any _ im y.writes A A2 c c2 _ (H.mu_lt hM) hl (H.fact _ mem_auto) (H.fact _ mem_auto)) rfl ?_)
    rintro _ w6 ⟨v1, rfl, hf⟩ hb _
    obtain ⟨A8, c8, cs, rfl, hcs, H1⟩ := H.takeG hb hf
    clear H hf; have H := H1; clear H1
    repeat' (first | (apply l_rd; exact rd_go; rfl) | (apply q_rd; exact rd_go; rfl) | refine stp ?_ | refine bk_o rfl ?_ | refine c_true ⟨rfl, rfl⟩ ?_ | refine c_false ⟨rfl, rfl⟩ ?_ | (apply l_rdg; rfl; rfl; rfl; exact rd_go; rfl) | refine l_skip rfl rfl rfl rfl ?_ | (apply q_rdg; rfl; rfl; rfl; exact rd_go; rfl) | refine q_skip rfl rfl rfl rfl ?_ | (refine q_end ?_; clear H; intro _ H) | ((first | refine l_st (z_box H ?_) | refine l_st (s_alloc H rfl ?_)); clear H; intro _ _ _ H) | (refine l_st (t_build0 H rfl ?_); clear H; intro _ _ _ _ H) | (refine l_st (z_sto H ?_); clear H; intro _ H) | ((first | refine c_cond ⟨rfl, rfl⟩ ?_ ?_ | refine c_ncond ⟨rfl, rfl⟩ ?_ ?_ | refine l_split rfl rfl ?_ ?_ | refine q_split rfl rfl ?_ ?_ | refine l_nsplit rfl rfl ?_ ?_ | refine q_nsplit rfl rfl ?_ ?_) <;> intro _ <;> try (exfalso; omega)) | (refine l_st (k_call1 evs_auto H ca_Ap7 rfl ?_); clear H; intro _ _ H) | (refine l_st (k_callg1 evs_auto rfl rfl rfl H ca_Ap7 rfl ?_); clear H; intro _ _ H) | refine kq_call1 evs_auto H (fun _ H => ca_Ap7) rfl ?_ | refine kq_callg1 evs_auto rfl rfl rfl H (fun _ H => ca_Ap7) rfl ?_)
    refine ret2 (v := .slice _ _ _) (v' := .int _ _) H rfl rfl rfl rfl ⟨.slice A8 (applySp im y.writes).1.length c8, ?_, ?_⟩
    · unfold capSp; rw [if_neg (by omega), if_neg hgood]
    · unfold capSp; rw [if_neg (by omega), if_neg hgood]
      exact H.freshG rfl rfl hcs
theorem rSameIm_any (M : Nat → Prop) (xs ys : List (List Sec)) (A B : Option Addr) (c d : Nat) (w : World) (hF : Stab w M (Row kVol 1 A xs)) (hF' : Stab w M (Row kVol 1 B ys)) :
    Ret Tryd.prog 24 [.slice A xs.length c, .slice B ys.length d] w fun v _ => v = .bool (decide (xs = ys)) := by
  have hl := hF.now.len
  refine enter (M := M) (F := [Row kVol 1 A xs, Row kVol 1 B ys]) Tryd.func24 rfl rfl rfl (by simpa using ⟨hF, hF'⟩) fun H => ?_
  repeat' (first | (apply l_rd; exact rd_go; rfl) | (apply q_rd; exact rd_go; rfl) | refine stp ?_ | refine bk_o rfl ?_ | refine c_true ⟨rfl, rfl⟩ ?_ | refine c_false ⟨rfl, rfl⟩ ?_ | (apply l_rdg; rfl; rfl; rfl; exact rd_go; rfl) | refine l_skip rfl rfl rfl rfl ?_ | (apply q_rdg; rfl; rfl; rfl; exact rd_go; rfl) | refine q_skip rfl rfl rfl rfl ?_ | refine c_draw H (by kernel_rfl) ?_ | (refine q_end ?_; clear H; intro _ H) | ((first | refine l_st (z_box H ?_) | refine l_st (s_alloc H rfl ?_)); clear H; intro _ _ _ H) | (refine l_st (t_build0 H rfl ?_); clear H; intro _ _ _ _ H) | (refine l_st (z_sto H ?_); clear H; intro _ H) | ((first | refine c_cond ⟨rfl, rfl⟩ ?_ ?_ | refine c_ncond ⟨rfl, rfl⟩ ?_ ?_ | refine l_split rfl rfl ?_ ?_ | refine q_split rfl rfl ?_ ?_ | refine l_nsplit rfl rfl ?_ ?_ | refine q_nsplit rfl rfl ?_ ?_) <;> intro _ <;> try (exfalso; omega)) | (refine l_st (k_call1 evs_auto H ca_Ap7 rfl ?_); clear H; intro _ _ H) | (refine l_st (k_callg1 evs_auto rfl rfl rfl H ca_Ap7 rfl ?_); clear H; intro _ _ H) | refine kq_call1 evs_auto H (fun _ H => ca_Ap7) rfl ?_ | refine kq_callg1 evs_auto rfl rfl rfl H (fun _ H => ca_Ap7) rfl ?_)
  · refine ret1 H rfl rfl rfl ?_
    refine bv ?_
    have : ¬ xs = ys := fun e => by subst e; contradiction
    simp [this]
  have hlen : xs.length = ys.length := by omega
  refine c_loopk [5] [0, 1] (fun n vs w' => ∃ i : Nat, vs = [.int .i64 i] ∧ i ≤ xs.length ∧ n = xs.length - i ∧ xs.take i = ys.take i ∧ Hp w M w' [] [] [Row kVol 1 A xs, Row kVol 1 B ys]) _ [_, _] rfl ⟨0, rfl, Nat.zero_le _, rfl, rfl, H⟩ ?_
  clear H
  rintro n _ E0 w2 ⟨i, rfl, hi, rfl, ht, H⟩
  by_cases hi' : i < xs.length
  · have hi2 : i < ys.length := by omega
    obtain ⟨A1, c1, _, _, H1⟩ := H.openS (dd := kSec) (sz := 8) (A := A) (xs := xs) (i := i) mem_auto hi'
    obtain ⟨A2, c2, _, _, H2⟩ := H1.openS (dd := kSec) (sz := 8) (A := B) (xs := ys) (i := i) mem_auto hi2
    clear H H1; have H := H2; clear H2
    repeat' (first | (apply l_rd; exact rd_go; rfl) | (apply q_rd; exact rd_go; rfl) | refine stp ?_ | refine bk_o rfl ?_ | refine c_true ⟨rfl, rfl⟩ ?_ | refine c_false ⟨rfl, rfl⟩ ?_ | (apply l_rdg; rfl; rfl; rfl; exact rd_go; rfl) | refine l_skip rfl rfl rfl rfl ?_ | (apply q_rdg; rfl; rfl; rfl; exact rd_go; rfl) | refine q_skip rfl rfl rfl rfl ?_ | refine c_draw H (by kernel_rfl) ?_ | (refine q_end ?_; clear H; intro _ H) | ((first | refine l_st (z_box H ?_) | refine l_st (s_alloc H rfl ?_)); clear H; intro _ _ _ H) | (refine l_st (t_build0 H rfl ?_); clear H; intro _ _ _ _ H) | (refine l_st (z_sto H ?_); clear H; intro _ H) | ((first | refine c_cond ⟨rfl, rfl⟩ ?_ ?_ | refine c_ncond ⟨rfl, rfl⟩ ?_ ?_ | refine l_split rfl rfl ?_ ?_ | refine q_split rfl rfl ?_ ?_ | refine l_nsplit rfl rfl ?_ ?_ | refine q_nsplit rfl rfl ?_ ?_) <;> intro _ <;> try (exfalso; omega)) | (refine l_st (k_call1 evs_auto H ca_Ap7 rfl ?_); clear H; intro _ _ H) | (refine l_st (k_callg1 evs_auto rfl rfl rfl H ca_Ap7 rfl ?_); clear H; intro _ _ H) | refine kq_call1 evs_auto H (fun _ H => ca_Ap7) rfl ?_ | refine kq_callg1 evs_auto rfl rfl rfl H (fun _ H => ca_Ap7) rfl ?_)
    · refine ret1 H rfl rfl rfl ?_
      refine bv ?_
      have hne : ¬ xs[i] = ys[i] := by simp_all
      have : ¬ xs = ys := fun e => hne (by simp [e])
      simp [this]
    · have hxy : xs[i] = ys[i] := by simp_all
      exact lk_n rfl (n' := xs.length - (i + 1)) (by omega) ⟨i + 1, rfl, hi', rfl, take_step hi' hi2 ht hxy, H.weak (List.Sublist.refl _) (List.Sublist.refl _) (by simp)⟩
  · repeat' (first | (apply l_rd; exact rd_go; rfl) | (apply q_rd; exact rd_go; rfl) | refine stp ?_ | refine bk_o rfl ?_ | refine c_true ⟨rfl, rfl⟩ ?_ | refine c_false ⟨rfl, rfl⟩ ?_ | (apply l_rdg; rfl; rfl; rfl; exact rd_go; rfl) | refine l_skip rfl rfl rfl rfl ?_ | (apply q_rdg; rfl; rfl; rfl; exact rd_go; rfl) | refine q_skip rfl rfl rfl rfl ?_ | refine c_draw H (by kernel_rfl) ?_ | (refine q_end ?_; clear H; intro _ H) | ((first | refine l_st (z_box H ?_) | refine l_st (s_alloc H rfl ?_)); clear H; intro _ _ _ H) | (refine l_st (t_build0 H rfl ?_); clear H; intro _ _ _ _ H) | (refine l_st (z_sto H ?_); clear H; intro _ H) | ((first | refine c_cond ⟨rfl, rfl⟩ ?_ ?_ | refine c_ncond ⟨rfl, rfl⟩ ?_ ?_ | refine l_split rfl rfl ?_ ?_ | refine q_split rfl rfl ?_ ?_ | refine l_nsplit rfl rfl ?_ ?_ | refine q_nsplit rfl rfl ?_ ?_) <;> intro _ <;> try (exfalso; omega)) | (refine l_st (k_call1 evs_auto H ca_Ap7 rfl ?_); clear H; intro _ _ H) | (refine l_st (k_callg1 evs_auto rfl rfl rfl H ca_Ap7 rfl ?_); clear H; intro _ _ H) | refine kq_call1 evs_auto H (fun _ H => ca_Ap7) rfl ?_ | refine kq_callg1 evs_auto rfl rfl rfl H (fun _ H => ca_Ap7) rfl ?_)
    have e : xs = ys := take_all hlen (by rw [show xs.length = i from by omega]; exact ht)
    refine ret1 H rfl rfl rfl ?_
    refine bv ?_
    simp [e]
theorem image_any (M : Nat → Prop) (s : Int) (w : World) (hM : ∀ b, M b → b < w.heap.size) (hs : rng .u8 s) :
    Ret Tryd.prog 22 [.int .u8 s] w fun v w' => Fresh (kSl 8 kSec) 61 1 M w (newIm [1 + s % 12, 4]) v w' := by
  simp only [rng] at hs
  refine enter (M := M) (F := []) Tryd.func22 rfl rfl rfl (by simp) fun H => ?_
  repeat' (first | (apply l_rd; exact rd_go; rfl) | (apply q_rd; exact rd_go; rfl) | refine stp ?_ | refine bk_o rfl ?_ | refine c_true ⟨rfl, rfl⟩ ?_ | refine c_false ⟨rfl, rfl⟩ ?_ | (apply l_rdg; rfl; rfl; rfl; exact rd_go; rfl) | refine l_skip rfl rfl rfl rfl ?_ | (apply q_rdg; rfl; rfl; rfl; exact rd_go; rfl) | refine q_skip rfl rfl rfl rfl ?_ | refine c_draw H (by kernel_rfl) ?_ | (refine q_end ?_; clear H; intro _ H) | ((first | refine l_st (z_box H ?_) | refine l_st (s_alloc H rfl ?_)); clear H; intro _ _ _ H) | (refine l_st (t_build0 H rfl ?_); clear H; intro _ _ _ _ H) | (refine l_st (z_sto H ?_); clear H; intro _ H) | ((first | refine c_cond ⟨rfl, rfl⟩ ?_ ?_ | refine c_ncond ⟨rfl, rfl⟩ ?_ ?_ | refine l_split rfl rfl ?_ ?_ | refine q_split rfl rfl ?_ ?_ | refine l_nsplit rfl rfl ?_ ?_ | refine q_nsplit rfl rfl ?_ ?_) <;> intro _ <;> try (exfalso; omega)) | (refine l_st (k_call1 evs_auto H ca_Ap7 rfl ?_); clear H; intro _ _ H) | (refine l_st (k_callg1 evs_auto rfl rfl rfl H ca_Ap7 rfl ?_); clear H; intro _ _ H) | refine kq_call1 evs_auto H (fun _ H => ca_Ap7) rfl ?_ | refine kq_callg1 evs_auto rfl rfl rfl H (fun _ H => ca_Ap7) rfl ?_)
  refine l_st (t_slice (cs := [.int .i64 (1 + s % 12), .int .i64 4]) [_, _] H evp_auto rfl rfl rfl rfl rfl rfl rfl ?_)
  clear H; intro A1 c1 w1 _ _ H
  have hch : ∀ w', Chunks (kInt .i64) 1 [1 + s % 12, 4] [.int .i64 (1 + s % 12), .int .i64 4] w' := fun w' => chunks_ints (xs := [1 + s % 12, 4]) (by intro x hx; simp at hx; simp only [rng]; omega)
  obtain ⟨s1, s2, H1⟩ := (H.add (fun w' _ _ => hch w')).sealR (dd := kInt .i64) (xs := [1 + s % 12, 4]) (List.mem_cons_self ..) hM (by decide) rfl (by simp)
  clear H; have H := H1.weak (F' := [Row (kInt .i64) 1 A1 [1 + s % 12, 4]]) (List.Sublist.refl _) (List.Sublist.refl _) (by simp); clear H1
  repeat' (first | (apply l_rd; exact rd_go; rfl) | (apply q_rd; exact rd_go; rfl) | refine stp ?_ | refine bk_o rfl ?_ | refine c_true ⟨rfl, rfl⟩ ?_ | refine c_false ⟨rfl, rfl⟩ ?_ | (apply l_rdg; rfl; rfl; rfl; exact rd_go; rfl) | refine l_skip rfl rfl rfl rfl ?_ | (apply q_rdg; rfl; rfl; rfl; exact rd_go; rfl) | refine q_skip rfl rfl rfl rfl ?_ | refine c_draw H (by kernel_rfl) ?_ | (refine q_end ?_; clear H; intro _ H) | ((first | refine l_st (z_box H ?_) | refine l_st (s_alloc H rfl ?_)); clear H; intro _ _ _ H) | (refine l_st (t_build0 H rfl ?_); clear H; intro _ _ _ _ H) | (refine l_st (z_sto H ?_); clear H; intro _ H) | ((first | refine c_cond ⟨rfl, rfl⟩ ?_ ?_ | refine c_ncond ⟨rfl, rfl⟩ ?_ ?_ | refine l_split rfl rfl ?_ ?_ | refine q_split rfl rfl ?_ ?_ | refine l_nsplit rfl rfl ?_ ?_ | refine q_nsplit rfl rfl ?_ ?_) <;> intro _ <;> try (exfalso; omega)) | (refine l_st (k_call1 evs_auto H ca_Ap7 rfl ?_); clear H; intro _ _ H) | (refine l_st (k_callg1 evs_auto rfl rfl rfl H ca_Ap7 rfl ?_); clear H; intro _ _ H) | refine kq_call1 evs_auto H (fun _ H => ca_Ap7) rfl ?_ | refine kq_callg1 evs_auto rfl rfl rfl H (fun _ H => ca_Ap7) rfl ?_)
  refine l_st (k_call evs_auto H (rNewIm_any _ [1 + s % 12, 4] A1 c1 _ (H.mu_lt hM) (H.fact _ mem_auto)) rfl ?_)
  rintro _ w2 ⟨v2, rfl, hf⟩ hb _
  obtain ⟨A3, c3, cs3, hv, _, _, H1⟩ := H.take' hb hf
  subst hv
  clear H hf; have H := H1; clear H1
  repeat' (first | (apply l_rd; exact rd_go; rfl) | (apply q_rd; exact rd_go; rfl) | refine stp ?_ | refine bk_o rfl ?_ | refine c_true ⟨rfl, rfl⟩ ?_ | refine c_false ⟨rfl, rfl⟩ ?_ | (apply l_rdg; rfl; rfl; rfl; exact rd_go; rfl) | refine l_skip rfl rfl rfl rfl ?_ | (apply q_rdg; rfl; rfl; rfl; exact rd_go; rfl) | refine q_skip rfl rfl rfl rfl ?_ | refine c_draw H (by kernel_rfl) ?_ | (refine q_end ?_; clear H; intro _ H) | ((first | refine l_st (z_box H ?_) | refine l_st (s_alloc H rfl ?_)); clear H; intro _ _ _ H) | (refine l_st (t_build0 H rfl ?_); clear H; intro _ _ _ _ H) | (refine l_st (z_sto H ?_); clear H; intro _ H) | ((first | refine c_cond ⟨rfl, rfl⟩ ?_ ?_ | refine c_ncond ⟨rfl, rfl⟩ ?_ ?_ | refine l_split rfl rfl ?_ ?_ | refine q_split rfl rfl ?_ ?_ | refine l_nsplit rfl rfl ?_ ?_ | refine q_nsplit rfl rfl ?_ ?_) <;> intro _ <;> try (exfalso; omega)) | (refine l_st (k_call1 evs_auto H ca_Ap7 rfl ?_); clear H; intro _ _ H) | (refine l_st (k_callg1 evs_auto rfl rfl rfl H ca_Ap7 rfl ?_); clear H; intro _ _ H) | refine kq_call1 evs_auto H (fun _ H => ca_Ap7) rfl ?_ | refine kq_callg1 evs_auto rfl rfl rfl H (fun _ H => ca_Ap7) rfl ?_)
  exact ret1 H rfl rfl rfl (H.fresh (j := 0) rfl mem_auto rfl)
end Go.Proofs.YtiolpldihoghiaaDoor

namespace Go.Proofs.YtiolpldihoghiaaDoor
open Go.RowKit
set_option linter.unusedVariables false
section
variable {P : Program} {N : Nat} {E : List (Nat × Value)} {ds : List Deferred} {ops : Array Oper} {Q : Exit → Act → World → Prop}
variable {d : Nat} {o : Op} {ty : TypeId} {pos : String} {af : Array Edge} {w : World} {v : Value} {K : List (Nat × Value) → World → Prop}
theorem s_rd (hr : Rd P ⟨some d, o, ty, pos, af, none⟩ N E w v) (hd : Nat.blt d N = true) (h : K ((d, v) :: E) w) : St P ops Q ⟨some d, o, ty, pos, af, none⟩ N E ds w K :=
  s_run rfl (hr.run ds w (fun _ _ => rfl)) (.inr ⟨_, _, rfl, rfl, hd, h⟩)
variable {w0 : World} {M : Nat → Prop} {L L' : List Loc} {O : List Own} {F : List (World → Prop)}
/-- The order of the variables does not matter. -/
theorem Hp.permL (H : Hp w0 M w L O F) (hp : L.Perm L') : Hp w0 M w L' O F := by
  have hmem : ∀ l, l ∈ L' ↔ l ∈ L := fun l => hp.mem_iff.symm
  refine ⟨H.below, fun l hl => H.loc l ((hmem l).1 hl), H.own, ((hp.map Loc.b).nodup_iff).1 H.nd, H.od, fun l hl o ho => H.lo l ((hmem l).1 hl) o ho, fun f hf => (H.fact f hf).mono ?_⟩
  rintro b (h | ⟨l, hl, hb⟩ | h)
  · exact .inl h
  · exact .inr (.inl ⟨l, (hmem l).1 hl, hb⟩)
  · exact .inr (.inr h)
end
end Go.Proofs.YtiolpldihoghiaaDoor

namespace Go.Proofs.YtiolpldihoghiaaDoor
open Go.RowKit
set_option linter.unusedVariables false
set_option linter.unusedSimpArgs false
set_option maxHeartbeats 8000000
def linA (n : Int) : List Span := [⟨1, 1, n + 1⟩]
def linB (n : Int) : List Span := [⟨1, 1, n⟩, ⟨3, n + 1, n + 2⟩]
def siteOf (im : List (List Sec)) (s : Int) (lin : List Span) (l : List Wr) : Pt := ⟨s, lin, markAll (cleanBm (sizesOf im)) (fit8 im l), (applySp im (fit8 im l)).1⟩
def nOf (common : Int) : Int := 1 + common % 5
theorem nOf_rng {common : Int} (h : rng .u8 common) : 1 ≤ nOf common ∧ nOf common ≤ 5 := by
  simp only [rng] at h; unfold nOf; omega
def PtRd (M : Nat → Prop) (p : Pt) (v : Value) (w' : World) : Prop :=
  ∃ A1 c1 A2 c2 A3 c3, v = .agg [.int .i64 p.site, .slice A1 p.lin.length c1, .slice A2 p.dirty.length c2, .slice A3 p.im.length c3].toArray ∧ Stab w' M (Row kSpan 3 A1 p.lin) ∧ Stab w' M (Row kBm 2 A2 p.dirty) ∧ Stab w' M (Row kVol 1 A3 p.im)
def SidesRet (M : Nat → Prop) (p q : Pt) (v : Value) (w' : World) : Prop := ∃ v1 v2, v = .tuple #[v1, v2] ∧ PtRd M p v1 w' ∧ PtRd M q v2 w'
theorem sides_any (M : Nat → Prop) (im : List (List Sec)) (l1 l2 : List Wr) (common : Int) (A B B' : Option Addr) (c d d' : Nat) (w : World) (hM : ∀ b, M b → b < w.heap.size) (hc : rng .u8 common) (hz : imErr im = 0)
    (hF : Stab w M (Row kVol 1 A im)) (h1 : Stab w M (Row kWr 3 B l1)) (h2 : Stab w M (Row kWr 3 B' l2)) :
    Ret Tryd.prog 21 [.slice A im.length c, .slice B l1.length d, .slice B' l2.length d', .int .u8 common] w (SidesRet M (siteOf im 0 (linA (nOf common)) l1) (siteOf im 1 (linB (nOf common)) l2)) := by
  obtain ⟨z1, z2, z3⟩ := sizesErr_zero hz
  have hsl := sizesOf_len im
  have hn := nOf_rng hc
  have hfv : ∀ (l : List Wr), ∀ x ∈ fit8 im l, 0 ≤ x.vol ∧ x.vol < im.length := fun l x hx => by
    obtain ⟨f1, _, f2, _⟩ := fits_at_vol (im := im) (x := x) (by have := fit8_fits x hx; omega)
    omega
  have hfl : ∀ (l : List Wr), (fit8 im l).length ≤ 8 := fun l => fit8_len
  simp only [rng] at hc
  have hnv : 1 + common % 5 = nOf common := rfl
  refine enter (M := M) (F := [Row kVol 1 A im, Row kWr 3 B l1, Row kWr 3 B' l2]) Tryd.func21 rfl rfl rfl (by simpa using ⟨hF, h1, h2⟩) fun H => ?_
  repeat' (first | (apply l_rd; exact rd_go; rfl) | (apply q_rd; exact rd_go; rfl) | refine stp ?_ | refine bk_o rfl ?_ | refine c_true ⟨rfl, rfl⟩ ?_ | refine c_false ⟨rfl, rfl⟩ ?_ | (apply l_rdg; rfl; rfl; rfl; exact rd_go; rfl) | refine l_skip rfl rfl rfl rfl ?_ | (apply q_rdg; rfl; rfl; rfl; exact rd_go; rfl) | refine q_skip rfl rfl rfl rfl ?_ | (refine q_end ?_; clear H; intro _ H) | ((first | refine l_st (z_box H ?_) | refine l_st (s_alloc H rfl ?_)); clear H; intro _ _ _ H) | (refine l_st (t_build0 H rfl ?_); clear H; intro _ _ _ _ H) | (refine l_st (z_sto H ?_); clear H; intro _ H) | ((first | refine c_cond ⟨rfl, rfl⟩ ?_ ?_ | refine c_ncond ⟨rfl, rfl⟩ ?_ ?_ | refine l_split rfl rfl ?_ ?_ | refine q_split rfl rfl ?_ ?_ | refine l_nsplit rfl rfl ?_ ?_ | refine q_nsplit rfl rfl ?_ ?_) <;> intro _ <;> try (exfalso; omega)))
  refine l_rd (rd_rem (c := common % 5) ⟨rfl, rfl⟩ ⟨rfl, rfl⟩ (by decide) (Int.tmod_eq_emod_of_nonneg hc.1)) rfl ?_
  repeat' (first | (apply l_rd; exact rd_go; rfl) | (apply q_rd; exact rd_go; rfl) | refine stp ?_ | refine bk_o rfl ?_ | refine c_true ⟨rfl, rfl⟩ ?_ | refine c_false ⟨rfl, rfl⟩ ?_ | (apply l_rdg; rfl; rfl; rfl; exact rd_go; rfl) | refine l_skip rfl rfl rfl rfl ?_ | (apply q_rdg; rfl; rfl; rfl; exact rd_go; rfl) | refine q_skip rfl rfl rfl rfl ?_ | (refine q_end ?_; clear H; intro _ H) | ((first | refine l_st (z_box H ?_) | refine l_st (s_alloc H rfl ?_)); clear H; intro _ _ _ H) | (refine l_st (t_build0 H rfl ?_); clear H; intro _ _ _ _ H) | (refine l_st (z_sto H ?_); clear H; intro _ H) | ((first | refine c_cond ⟨rfl, rfl⟩ ?_ ?_ | refine c_ncond ⟨rfl, rfl⟩ ?_ ?_ | refine l_split rfl rfl ?_ ?_ | refine q_split rfl rfl ?_ ?_ | refine l_nsplit rfl rfl ?_ ?_ | refine q_nsplit rfl rfl ?_ ?_) <;> intro _ <;> try (exfalso; omega)))
  refine l_st (t_slice (cs := [.int .i64 1, .int .i64 1, .int .i64 (1 + common % 5 + 1)]) [.agg [_, _, _].toArray] H evp_auto rfl rfl rfl rfl rfl rfl rfl ?_)
  clear H; intro A1 c1 w1 _ _ H
  obtain ⟨s1, s2, H1⟩ := H.sealf (dd := kSpan) (f := fSpan) (xs := linA (nOf common)) (fun _ => rfl) (fun w' x hx => by
    simp only [linA, List.mem_cons, List.not_mem_nil, or_false] at hx
    subst hx; exact span_k (by simp only [rng]; omega) w') hM (by decide) rfl (by simp [linA])
  clear H; have H := H1; clear H1
  repeat' (first | (apply l_rd; exact rd_go; rfl) | (apply q_rd; exact rd_go; rfl) | refine stp ?_ | refine bk_o rfl ?_ | refine c_true ⟨rfl, rfl⟩ ?_ | refine c_false ⟨rfl, rfl⟩ ?_ | (apply l_rdg; rfl; rfl; rfl; exact rd_go; rfl) | refine l_skip rfl rfl rfl rfl ?_ | (apply q_rdg; rfl; rfl; rfl; exact rd_go; rfl) | refine q_skip rfl rfl rfl rfl ?_ | (refine q_end ?_; clear H; intro _ H) | ((first | refine l_st (z_box H ?_) | refine l_st (s_alloc H rfl ?_)); clear H; intro _ _ _ H) | (refine l_st (t_build0 H rfl ?_); clear H; intro _ _ _ _ H) | (refine l_st (z_sto H ?_); clear H; intro _ H) | ((first | refine c_cond ⟨rfl, rfl⟩ ?_ ?_ | refine c_ncond ⟨rfl, rfl⟩ ?_ ?_ | refine l_split rfl rfl ?_ ?_ | refine q_split rfl rfl ?_ ?_ | refine l_nsplit rfl rfl ?_ ?_ | refine q_nsplit rfl rfl ?_ ?_) <;> intro _ <;> try (exfalso; omega)))
  refine l_st (k_call evs_auto H (fitting_any _ im l1 A B c d _ hz (H.fact _ mem_auto) (H.fact _ mem_auto)) rfl ?_)
  intro v2 w2 hf hb _
  obtain ⟨A2, c2, hv2, _, _, H1⟩ := H.takeRow hb hf hM (by decide) (by have := hfl l1; omega)
  subst hv2
  clear H hf; have H := H1; clear H1
  repeat' (first | (apply l_rd; exact rd_go; rfl) | (apply q_rd; exact rd_go; rfl) | refine stp ?_ | refine bk_o rfl ?_ | refine c_true ⟨rfl, rfl⟩ ?_ | refine c_false ⟨rfl, rfl⟩ ?_ | (apply l_rdg; rfl; rfl; rfl; exact rd_go; rfl) | refine l_skip rfl rfl rfl rfl ?_ | (apply q_rdg; rfl; rfl; rfl; exact rd_go; rfl) | refine q_skip rfl rfl rfl rfl ?_ | (refine q_end ?_; clear H; intro _ H) | ((first | refine l_st (z_box H ?_) | refine l_st (s_alloc H rfl ?_)); clear H; intro _ _ _ H) | (refine l_st (t_build0 H rfl ?_); clear H; intro _ _ _ _ H) | (refine l_st (z_sto H ?_); clear H; intro _ H) | ((first | refine c_cond ⟨rfl, rfl⟩ ?_ ?_ | refine c_ncond ⟨rfl, rfl⟩ ?_ ?_ | refine l_split rfl rfl ?_ ?_ | refine q_split rfl rfl ?_ ?_ | refine l_nsplit rfl rfl ?_ ?_ | refine q_nsplit rfl rfl ?_ ?_) <;> intro _ <;> try (exfalso; omega)))
  refine l_st (k_call evs_auto H (point_any H.mu 0 im (fit8 im l1) A A2 A1 c c2 1 c1 _ (H.mu_lt hM) (by omega) (hfv l1) (H.fact _ mem_auto) (H.fact _ mem_auto)) rfl ?_)
  rintro _ w3 ⟨A3, c3, A4, c4, rfl, _, _, hr1, hr2⟩ _ H1
  have H2 := (H1.add hr1).add hr2
  clear H1 hr1 hr2 H; have H := H2; clear H2
  repeat' (first | (apply l_rd; exact rd_go; rfl) | (apply q_rd; exact rd_go; rfl) | refine stp ?_ | refine bk_o rfl ?_ | refine c_true ⟨rfl, rfl⟩ ?_ | refine c_false ⟨rfl, rfl⟩ ?_ | (apply l_rdg; rfl; rfl; rfl; exact rd_go; rfl) | refine l_skip rfl rfl rfl rfl ?_ | (apply q_rdg; rfl; rfl; rfl; exact rd_go; rfl) | refine q_skip rfl rfl rfl rfl ?_ | (refine q_end ?_; clear H; intro _ H) | ((first | refine l_st (z_box H ?_) | refine l_st (s_alloc H rfl ?_)); clear H; intro _ _ _ H) | (refine l_st (t_build0 H rfl ?_); clear H; intro _ _ _ _ H) | (refine l_st (z_sto H ?_); clear H; intro _ H) | ((first | refine c_cond ⟨rfl, rfl⟩ ?_ ?_ | refine c_ncond ⟨rfl, rfl⟩ ?_ ?_ | refine l_split rfl rfl ?_ ?_ | refine q_split rfl rfl ?_ ?_ | refine l_nsplit rfl rfl ?_ ?_ | refine q_nsplit rfl rfl ?_ ?_) <;> intro _ <;> try (exfalso; omega)))
  refine l_st (t_slice (cs := [.int .i64 1, .int .i64 1, .int .i64 (1 + common % 5), .int .i64 3, .int .i64 (1 + common % 5 + 1), .int .i64 (1 + common % 5 + 2)]) [.agg [_, _, _].toArray, .agg [_, _, _].toArray] H evp_auto rfl rfl rfl rfl rfl rfl rfl ?_)
  clear H; intro B1 d1 w4 _ _ H
  obtain ⟨s3, s4, H1⟩ := H.sealf (dd := kSpan) (f := fSpan) (xs := linB (nOf common)) (fun _ => rfl) (fun w' x hx => by
    simp only [linB, List.mem_cons, List.not_mem_nil, or_false] at hx
    rcases hx with rfl | rfl <;> exact span_k (by simp only [rng]; omega) w') hM (by decide) rfl (by simp [linB])
  clear H; have H := H1; clear H1
  repeat' (first | (apply l_rd; exact rd_go; rfl) | (apply q_rd; exact rd_go; rfl) | refine stp ?_ | refine bk_o rfl ?_ | refine c_true ⟨rfl, rfl⟩ ?_ | refine c_false ⟨rfl, rfl⟩ ?_ | (apply l_rdg; rfl; rfl; rfl; exact rd_go; rfl) | refine l_skip rfl rfl rfl rfl ?_ | (apply q_rdg; rfl; rfl; rfl; exact rd_go; rfl) | refine q_skip rfl rfl rfl rfl ?_ | (refine q_end ?_; clear H; intro _ H) | ((first | refine l_st (z_box H ?_) | refine l_st (s_alloc H rfl ?_)); clear H; intro _ _ _ H) | (refine l_st (t_build0 H rfl ?_); clear H; intro _ _ _ _ H) | (refine l_st (z_sto H ?_); clear H; intro _ H) | ((first | refine c_cond ⟨rfl, rfl⟩ ?_ ?_ | refine c_ncond ⟨rfl, rfl⟩ ?_ ?_ | refine l_split rfl rfl ?_ ?_ | refine q_split rfl rfl ?_ ?_ | refine l_nsplit rfl rfl ?_ ?_ | refine q_nsplit rfl rfl ?_ ?_) <;> intro _ <;> try (exfalso; omega)))
  refine l_st (k_call evs_auto H (fitting_any _ im l2 A B' c d' _ hz (H.fact _ mem_auto) (H.fact _ mem_auto)) rfl ?_)
  intro v5 w5 hf hb _
  obtain ⟨B2, d2, hv2, _, _, H1⟩ := H.takeRow hb hf hM (by decide) (by have := hfl l2; omega)
  subst hv2
  clear H hf; have H := H1; clear H1
  repeat' (first | (apply l_rd; exact rd_go; rfl) | (apply q_rd; exact rd_go; rfl) | refine stp ?_ | refine bk_o rfl ?_ | refine c_true ⟨rfl, rfl⟩ ?_ | refine c_false ⟨rfl, rfl⟩ ?_ | (apply l_rdg; rfl; rfl; rfl; exact rd_go; rfl) | refine l_skip rfl rfl rfl rfl ?_ | (apply q_rdg; rfl; rfl; rfl; exact rd_go; rfl) | refine q_skip rfl rfl rfl rfl ?_ | (refine q_end ?_; clear H; intro _ H) | ((first | refine l_st (z_box H ?_) | refine l_st (s_alloc H rfl ?_)); clear H; intro _ _ _ H) | (refine l_st (t_build0 H rfl ?_); clear H; intro _ _ _ _ H) | (refine l_st (z_sto H ?_); clear H; intro _ H) | ((first | refine c_cond ⟨rfl, rfl⟩ ?_ ?_ | refine c_ncond ⟨rfl, rfl⟩ ?_ ?_ | refine l_split rfl rfl ?_ ?_ | refine q_split rfl rfl ?_ ?_ | refine l_nsplit rfl rfl ?_ ?_ | refine q_nsplit rfl rfl ?_ ?_) <;> intro _ <;> try (exfalso; omega)))
  refine l_st (k_call evs_auto H (point_any H.mu 1 im (fit8 im l2) A B2 B1 c d2 2 d1 _ (H.mu_lt hM) (by omega) (hfv l2) (H.fact _ mem_auto) (H.fact _ mem_auto)) rfl ?_)
  rintro _ w6 ⟨B3, d3, B4, d4, rfl, _, _, hr1, hr2⟩ _ H1
  have H2 := (H1.add hr1).add hr2
  clear H1 hr1 hr2 H; have H := H2; clear H2
  repeat' (first | (apply l_rd; exact rd_go; rfl) | (apply q_rd; exact rd_go; rfl) | refine stp ?_ | refine bk_o rfl ?_ | refine c_true ⟨rfl, rfl⟩ ?_ | refine c_false ⟨rfl, rfl⟩ ?_ | (apply l_rdg; rfl; rfl; rfl; exact rd_go; rfl) | refine l_skip rfl rfl rfl rfl ?_ | (apply q_rdg; rfl; rfl; rfl; exact rd_go; rfl) | refine q_skip rfl rfl rfl rfl ?_ | (refine q_end ?_; clear H; intro _ H) | ((first | refine l_st (z_box H ?_) | refine l_st (s_alloc H rfl ?_)); clear H; intro _ _ _ H) | (refine l_st (t_build0 H rfl ?_); clear H; intro _ _ _ _ H) | (refine l_st (z_sto H ?_); clear H; intro _ H) | ((first | refine c_cond ⟨rfl, rfl⟩ ?_ ?_ | refine c_ncond ⟨rfl, rfl⟩ ?_ ?_ | refine l_split rfl rfl ?_ ?_ | refine q_split rfl rfl ?_ ?_ | refine l_nsplit rfl rfl ?_ ?_ | refine q_nsplit rfl rfl ?_ ?_) <;> intro _ <;> try (exfalso; omega)))
  have hend : ∀ {w8 : World} {L : List Loc} {E : List (Nat × Value)} {b8 b9 : Nat}, Hp w M w8 L [] [Row kVol 1 B4 (siteOf im 1 (linB (nOf common)) l2).im, Row kBm 2 B3 (siteOf im 1 (linB (nOf common)) l2).dirty, Row kSpan 3 B1 (linB (nOf common)), Row kVol 1 A4 (siteOf im 0 (linA (nOf common)) l1).im, Row kBm 2 A3 (siteOf im 0 (linA (nOf common)) l1).dirty, Row kSpan 3 A1 (linA (nOf common))] →
      get E 8 = lp b8 0 → get E 9 = lp b9 0 → L[3]? = some ⟨b8, [.int .i64 0, .slice A1 1 c1, .slice A3 (markAll (cleanBm (sizesOf im)) (fit8 im l1)).length c3, .slice A4 (applySp im (fit8 im l1)).1.length c4], 27⟩ → L[2]? = some ⟨b9, [.int .i64 1, .slice B1 2 d1, .slice B3 (markAll (cleanBm (sizesOf im)) (fit8 im l2)).length d3, .slice B4 (applySp im (fit8 im l2)).1.length d4], 27⟩ →
      BP Tryd.prog Tryd.f21 (RetPost w (SidesRet M (siteOf im 0 (linA (nOf common)) l1) (siteOf im 1 (linB (nOf common)) l2))) .ret (fr Tryd.f21.ntmps E []) w8 := fun H q1 q2 q3 q4 =>
    retv H (rs := [.cell 8 27, .cell 9 27]) rfl (.cons (rv_cell H rfl q1 q3 rfl) (.cons (rv_cell H rfl q2 q4 rfl) .nil)) ⟨_, _, rfl,
      ⟨A1, c1, A3, c3, A4, c4, rfl, (H.fact _ mem_auto).mono fun b h => .inl h, (H.fact _ mem_auto).mono fun b h => .inl h, (H.fact _ mem_auto).mono fun b h => .inl h⟩,
      ⟨B1, d1, B3, d3, B4, d4, rfl, (H.fact _ mem_auto).mono fun b h => .inl h, (H.fact _ mem_auto).mono fun b h => .inl h, (H.fact _ mem_auto).mono fun b h => .inl h⟩⟩
  have H1 := H.weak (F' := [Row kVol 1 B4 (siteOf im 1 (linB (nOf common)) l2).im, Row kBm 2 B3 (siteOf im 1 (linB (nOf common)) l2).dirty, Row kSpan 3 B1 (linB (nOf common)), Row kVol 1 A4 (siteOf im 0 (linA (nOf common)) l1).im, Row kBm 2 A3 (siteOf im 0 (linA (nOf common)) l1).dirty, Row kSpan 3 A1 (linA (nOf common))]) (List.Sublist.refl _) (List.Sublist.refl _) (by simp [siteOf])
  clear H; have H := H1; clear H1
  refine c_mix H [0, 1, 2, 3] ?_
  clear H; intro w7 H
  refine m_two (i := 0) (j := 1) (by kernel_rfl) rfl rfl ?_ ?_
  · refine s_rd (rd_load_lp_ag (i := 1) H ⟨rfl, rfl⟩ rfl rfl) rfl ⟨fun h => (by cases h), ?_⟩
    refine m_two (i := 1) (j := 2) (by kernel_rfl) rfl rfl ?_ ?_
    · refine s_rd (rd_load_lp_ag (i := 0) H ⟨rfl, rfl⟩ rfl rfl) rfl ⟨fun h => (by cases h), ?_⟩
      refine m_one (i := 2) (by kernel_rfl) rfl (s_storea (i := 3) H ⟨rfl, rfl⟩ rfl ⟨rfl, rfl⟩ rfl rfl rfl ?_)
      clear H; intro w10 H; refine ⟨fun h => (by cases h), ?_⟩
      refine m_one (i := 3) (by kernel_rfl) rfl (s_storea (i := 2) H ⟨rfl, rfl⟩ rfl ⟨rfl, rfl⟩ rfl rfl rfl ?_)
      clear H; intro w11 H; refine ⟨fun h => (by cases h), ?_⟩
      refine m_end (by kernel_rfl) ?_
      repeat' (first | (apply l_rd; exact rd_go; rfl) | (apply q_rd; exact rd_go; rfl) | refine stp ?_ | refine bk_o rfl ?_ | refine c_true ⟨rfl, rfl⟩ ?_ | refine c_false ⟨rfl, rfl⟩ ?_ | (apply l_rdg; rfl; rfl; rfl; exact rd_go; rfl) | refine l_skip rfl rfl rfl rfl ?_ | (apply q_rdg; rfl; rfl; rfl; exact rd_go; rfl) | refine q_skip rfl rfl rfl rfl ?_ | (refine q_end ?_; clear H; intro _ H) | ((first | refine l_st (z_box H ?_) | refine l_st (s_alloc H rfl ?_)); clear H; intro _ _ _ H) | (refine l_st (t_build0 H rfl ?_); clear H; intro _ _ _ _ H) | (refine l_st (z_sto H ?_); clear H; intro _ H) | ((first | refine c_cond ⟨rfl, rfl⟩ ?_ ?_ | refine c_ncond ⟨rfl, rfl⟩ ?_ ?_ | refine l_split rfl rfl ?_ ?_ | refine q_split rfl rfl ?_ ?_ | refine l_nsplit rfl rfl ?_ ?_ | refine q_nsplit rfl rfl ?_ ?_) <;> intro _ <;> try (exfalso; omega)))
      exact hend H rfl rfl rfl rfl
    · refine s_storea (i := 3) H ⟨rfl, rfl⟩ rfl ⟨rfl, rfl⟩ rfl rfl rfl ?_
      clear H; intro w10 H; refine ⟨fun h => (by cases h), ?_⟩
      refine m_one (i := 1) (by kernel_rfl) rfl (s_rd (rd_load_lp_ag (i := 0) H ⟨rfl, rfl⟩ rfl rfl) rfl ⟨fun h => (by cases h), ?_⟩)
      refine m_one (i := 3) (by kernel_rfl) rfl (s_storea (i := 2) H ⟨rfl, rfl⟩ rfl ⟨rfl, rfl⟩ rfl rfl rfl ?_)
      clear H; intro w11 H; refine ⟨fun h => (by cases h), ?_⟩
      refine m_end (by kernel_rfl) ?_
      repeat' (first | (apply l_rd; exact rd_go; rfl) | (apply q_rd; exact rd_go; rfl) | refine stp ?_ | refine bk_o rfl ?_ | refine c_true ⟨rfl, rfl⟩ ?_ | refine c_false ⟨rfl, rfl⟩ ?_ | (apply l_rdg; rfl; rfl; rfl; exact rd_go; rfl) | refine l_skip rfl rfl rfl rfl ?_ | (apply q_rdg; rfl; rfl; rfl; exact rd_go; rfl) | refine q_skip rfl rfl rfl rfl ?_ | (refine q_end ?_; clear H; intro _ H) | ((first | refine l_st (z_box H ?_) | refine l_st (s_alloc H rfl ?_)); clear H; intro _ _ _ H) | (refine l_st (t_build0 H rfl ?_); clear H; intro _ _ _ _ H) | (refine l_st (z_sto H ?_); clear H; intro _ H) | ((first | refine c_cond ⟨rfl, rfl⟩ ?_ ?_ | refine c_ncond ⟨rfl, rfl⟩ ?_ ?_ | refine l_split rfl rfl ?_ ?_ | refine q_split rfl rfl ?_ ?_ | refine l_nsplit rfl rfl ?_ ?_ | refine q_nsplit rfl rfl ?_ ?_) <;> intro _ <;> try (exfalso; omega)))
      exact hend H rfl rfl rfl rfl
  · refine s_rd (rd_load_lp_ag (i := 0) H ⟨rfl, rfl⟩ rfl rfl) rfl ⟨fun h => (by cases h), ?_⟩
    refine m_one (i := 0) (by kernel_rfl) rfl (s_rd (rd_load_lp_ag (i := 1) H ⟨rfl, rfl⟩ rfl rfl) rfl ⟨fun h => (by cases h), ?_⟩)
    refine m_one (i := 2) (by kernel_rfl) rfl (s_storea (i := 3) H ⟨rfl, rfl⟩ rfl ⟨rfl, rfl⟩ rfl rfl rfl ?_)
    clear H; intro w10 H; refine ⟨fun h => (by cases h), ?_⟩
    refine m_one (i := 3) (by kernel_rfl) rfl (s_storea (i := 2) H ⟨rfl, rfl⟩ rfl ⟨rfl, rfl⟩ rfl rfl rfl ?_)
    clear H; intro w11 H; refine ⟨fun h => (by cases h), ?_⟩
    refine m_end (by kernel_rfl) ?_
    repeat' (first | (apply l_rd; exact rd_go; rfl) | (apply q_rd; exact rd_go; rfl) | refine stp ?_ | refine bk_o rfl ?_ | refine c_true ⟨rfl, rfl⟩ ?_ | refine c_false ⟨rfl, rfl⟩ ?_ | (apply l_rdg; rfl; rfl; rfl; exact rd_go; rfl) | refine l_skip rfl rfl rfl rfl ?_ | (apply q_rdg; rfl; rfl; rfl; exact rd_go; rfl) | refine q_skip rfl rfl rfl rfl ?_ | (refine q_end ?_; clear H; intro _ H) | ((first | refine l_st (z_box H ?_) | refine l_st (s_alloc H rfl ?_)); clear H; intro _ _ _ H) | (refine l_st (t_build0 H rfl ?_); clear H; intro _ _ _ _ H) | (refine l_st (z_sto H ?_); clear H; intro _ H) | ((first | refine c_cond ⟨rfl, rfl⟩ ?_ ?_ | refine c_ncond ⟨rfl, rfl⟩ ?_ ?_ | refine l_split rfl rfl ?_ ?_ | refine q_split rfl rfl ?_ ?_ | refine l_nsplit rfl rfl ?_ ?_ | refine q_nsplit rfl rfl ?_ ?_) <;> intro _ <;> try (exfalso; omega)))
    exact hend H rfl rfl rfl rfl
end Go.Proofs.YtiolpldihoghiaaDoor

namespace Go.Proofs.YtiolpldihoghiaaDoor
open Go.RowKit
set_option linter.unusedVariables false
theorem lin_facts {n : Int} (h : 1 ≤ n ∧ n ≤ 5) : linOk (linA n) = true ∧ linOk (linB n) = true ∧ (anc (linA n) (linB n)).1 = n ∧ lastTo (linB n) = n + 2 := by
  have : n = 1 ∨ n = 2 ∨ n = 3 ∨ n = 4 ∨ n = 5 := by omega
  rcases this with rfl | rfl | rfl | rfl | rfl <;> decide
def imOf (s : Int) : List (List Sec) := newIm [1 + s % 12, 4]
theorem imOf_ok {s : Int} (h : rng .u8 s) : imErr (imOf s) = 0 := by
  have hz : sizesErr [1 + s % 12, 4] = 0 := by
    simp only [rng] at h
    unfold sizesErr
    rw [if_neg (by simp), if_pos (by intro n hn; simp at hn; omega)]
  have e : imOf s = zIm [1 + s % 12, 4] := by unfold imOf newIm; rw [if_pos hz]
  unfold imErr; rw [e, sizesOf_zIm hz]; exact hz
section
variable {im : List (List Sec)} {common : Int} {l1 l2 : List Wr}
theorem side_site (hz : imErr im = 0) {s : Int} {lin : List Span} (hs : 0 ≤ s ∧ s ≤ 1073741824) (hl : linOk lin = true) (l : List Wr) : Site im (siteOf im s lin l) (covers (fit8 im l)) :=
  site_of hz fit8_fits hs hl
theorem Site.len {p : Pt} {g : Nat → Nat → Bool} (hz : imErr im = 0) (h : Site im p g) : p.dirty.length ≤ 8 ∧ p.im.length ≤ 8 ∧ p.im.length = im.length ∧ p.dirty.length = im.length := by
  obtain ⟨z1, z2, z3⟩ := sizesErr_zero hz
  rw [sizesOf_len] at z2
  have h2 : p.im.length = im.length := by rw [← sizesOf_len p.im, h.sizes, sizesOf_len]
  have h1 := h.marks.len
  omega
/-- The cycle of the sides. -/
def sideCyc (im : List (List Sec)) (common : Int) (l1 l2 : List Wr) (pos : List Int) : Cyc :=
  ⟨nOf common, nOf common + 2, 9, pos, contents (siteOf im 1 (linB (nOf common)) l2).im (betw (siteOf im 0 (linA (nOf common)) l1) (siteOf im 1 (linB (nOf common)) l2))⟩
theorem sides_cyc (hz : imErr im = 0) (hc : rng .u8 common) {pos : List Int} (hpos : pos.length ≤ 8 ∧ posErr pos = 0) :
    cycSp (siteOf im 0 (linA (nOf common)) l1) (siteOf im 1 (linB (nOf common)) l2) (nOf common + 2) 9 pos = (sideCyc im common l1 l2 pos, 0) ∧
      ∀ X, sizesOf X = sizesOf im → (∀ v k, (covers (fit8 im l1) v k || covers (fit8 im l2) v k) = false → pix X v k = pix (siteOf im 1 (linB (nOf common)) l2).im v k) → capSp X (sideCyc im common l1 l2 pos) = ((siteOf im 1 (linB (nOf common)) l2).im, 0) := by
  have hn := nOf_rng hc
  obtain ⟨f1, f2, f3, f4⟩ := lin_facts hn
  have hp := side_site (lin := linA (nOf common)) hz (s := 0) (by omega) f1 l1
  have hq := side_site (lin := linB (nOf common)) hz (s := 1) (by omega) f2 l2
  obtain ⟨g1, g2, g3⟩ := cyc_sites hz hp hq (number := nOf common + 2) (time := 9) (n := nOf common) (pos := pos) f3 (by show _ ∧ _ ∧ lastTo (linB (nOf common)) ≤ _ ∧ _; omega) (by omega) hpos
  refine ⟨g1, fun X hX ho => ?_⟩
  have h3 := g3 X hX ho
  unfold capSp
  rw [if_neg (by unfold imErr at hz ⊢; rw [hX]; omega), if_neg (by rw [hX]; exact fun h => h g2)]
  show ((applySp X (contents _ _)).1, (applySp X (contents _ _)).2.2) = _
  rw [h3]
theorem sides_old (hz : imErr im = 0) (hc : rng .u8 common) {pos : List Int} (hpos : pos.length ≤ 8 ∧ posErr pos = 0) :
    capSp (siteOf im 0 (linA (nOf common)) l1).im (sideCyc im common l1 l2 pos) = ((siteOf im 1 (linB (nOf common)) l2).im, 0) := by
  have hn := nOf_rng hc
  obtain ⟨f1, f2, f3, f4⟩ := lin_facts hn
  have hp := side_site (lin := linA (nOf common)) hz (s := 0) (by omega) f1 l1
  have hq := side_site (lin := linB (nOf common)) hz (s := 1) (by omega) f2 l2
  refine (sides_cyc hz hc hpos).2 _ hp.sizes fun v k h => ?_
  obtain ⟨h1, h2⟩ := Bool.or_eq_false_iff.1 h
  rw [hp.base v k h1, hq.base v k h2]
end
end Go.Proofs.YtiolpldihoghiaaDoor

namespace Go.Proofs.YtiolpldihoghiaaDoor
open Go.RowKit
set_option linter.unusedVariables false
set_option linter.unusedSimpArgs false
set_option maxHeartbeats 64000000
theorem ca_Cy4 {k : FuncId} {vs : List Value} {w1 : World} {v : Value} (h : Ret Tryd.prog k vs w1 (fun u _ => u = v) := by first | exact anc_any _ _ _ _ _ _ _ _ (H.fact _ mem_auto) (H.fact _ mem_auto) | exact rAnc_any _ _ _ _ _ _ _ _ (H.fact _ mem_auto) (H.fact _ mem_auto)) : Ret Tryd.prog k vs w1 (fun u _ => u = v) := h
section
variable (M : Nat → Prop) (w : World) (hM : ∀ b, M b → b < w.heap.size) (p q : Pt) (A1 A2 A3 B1 B2 B3 Ap : Option Addr) (c1 c2 c3 d1 d2 d3 cp : Nat) (hs : rng .i64 p.site) (hd : p.dirty.length ≤ 1000000) (hi : p.im.length ≤ 1000000) (hs' : rng .i64 q.site) (hd' : q.dirty.length ≤ 1000000) (hi' : q.im.length ≤ 1000000)
  (number time : Int) (pos : List Int) (hpl : pos.length ≤ 1000000)
  (h1 : Stab w M (Row kSpan 3 A1 p.lin)) (h2 : Stab w M (Row kBm 2 A2 p.dirty)) (h3 : Stab w M (Row kVol 1 A3 p.im)) (k1 : Stab w M (Row kSpan 3 B1 q.lin)) (k2 : Stab w M (Row kBm 2 B2 q.dirty)) (k3 : Stab w M (Row kVol 1 B3 q.im)) (hp : Stab w M (Row (kInt .i64) 1 Ap pos))
include hM hs hd hi hs' hd' hi' hpl h1 h2 h3 k1 k2 k3 hp
theorem rCycle_any :
    Ret Tryd.prog 18 [.agg [.int .i64 p.site, .slice A1 p.lin.length c1, .slice A2 p.dirty.length c2, .slice A3 p.im.length c3].toArray, .agg [.int .i64 q.site, .slice B1 q.lin.length d1, .slice B2 q.dirty.length d2, .slice B3 q.im.length d3].toArray, .int .i64 number, .int .i64 time, .slice Ap pos.length cp] w (CycRet M w (cycSp p q number time pos)) := by
  have hprng := rng_row hp
  have hll := k1.now.len
  refine enter (M := M) (F := [Row kSpan 3 A1 p.lin, Row kBm 2 A2 p.dirty, Row kVol 1 A3 p.im, Row kSpan 3 B1 q.lin, Row kBm 2 B2 q.dirty, Row kVol 1 B3 q.im, Row (kInt .i64) 1 Ap pos]) Tryd.func18 rfl rfl rfl (by simpa using ⟨h1, h2, h3, k1, k2, k3, hp⟩) fun H => ?_
  repeat' (first | (apply l_rd; exact rd_go; rfl) | (apply q_rd; exact rd_go; rfl) | refine stp ?_ | refine bk_o rfl ?_ | refine c_true ⟨rfl, rfl⟩ ?_ | refine c_false ⟨rfl, rfl⟩ ?_ | (apply l_rdg; rfl; rfl; rfl; exact rd_go; rfl) | refine l_skip rfl rfl rfl rfl ?_ | (apply q_rdg; rfl; rfl; rfl; exact rd_go; rfl) | refine q_skip rfl rfl rfl rfl ?_ | (refine q_end ?_; clear H; intro _ H) | ((first | refine l_st (z_box H ?_) | refine l_st (s_alloc H rfl ?_)); clear H; intro _ _ _ H) | (refine l_st (t_build0 H rfl ?_); clear H; intro _ _ _ _ H) | (refine l_st (z_sto H ?_); clear H; intro _ H) | ((first | refine c_cond ⟨rfl, rfl⟩ ?_ ?_ | refine c_ncond ⟨rfl, rfl⟩ ?_ ?_ | refine l_split rfl rfl ?_ ?_ | refine q_split rfl rfl ?_ ?_ | refine l_nsplit rfl rfl ?_ ?_ | refine q_nsplit rfl rfl ?_ ?_) <;> intro _ <;> try (exfalso; omega)) | (refine l_st (k_call1 evs_auto H ca_Cy4 rfl ?_); clear H; intro _ _ H) | (refine l_st (k_callg1 evs_auto rfl rfl rfl H ca_Cy4 rfl ?_); clear H; intro _ _ H) | refine kq_call1 evs_auto H (fun _ H => ca_Cy4) rfl ?_ | refine kq_callg1 evs_auto rfl rfl rfl H (fun _ H => ca_Cy4) rfl ?_)
  refine l_st (k_call evs_auto H (rBetween_any _ _ (H.mu_lt hM) p q A1 A2 A3 B1 B2 B3 c1 c2 c3 d1 d2 d3 hs hd hi hs' hd' hi' (H.fact _ mem_auto) (H.fact _ mem_auto) (H.fact _ mem_auto) (H.fact _ mem_auto) (H.fact _ mem_auto) (H.fact _ mem_auto)) rfl ?_)
  rintro _ w1 ⟨v1, rfl, hf⟩ hb1 _
  obtain ⟨A5, c5, hA5, s1, s2, H1⟩ := H.takeRow hb1 hf hM Nat.zero_lt_one (by have := betwSp_len p q hd; omega)
  subst hA5
  clear H hf; have H := H1; clear H1
  have hlast : ∃ n : Int, n = lastTo q.lin ∧ (∀ h0 : q.lin.length = 0, n = 0) ∧ ∀ h0 : 0 < q.lin.length, n = (q.lin[((q.lin.length : Int) - 1).toNat]'(by omega)).to := by
    rcases Nat.eq_zero_or_pos q.lin.length with hz | hz
    · exact ⟨0, (lastTo_nil hz).symm, fun _ => rfl, fun h => by omega⟩
    · exact ⟨_, (lastTo_at (l := q.lin) (i := ((q.lin.length : Int) - 1).toNat) (by omega) (by omega)).symm, fun h => by omega, fun _ => rfl⟩
  repeat' (first | (apply l_rd; exact rd_go; rfl) | (apply q_rd; exact rd_go; rfl) | refine stp ?_ | refine bk_o rfl ?_ | refine c_true ⟨rfl, rfl⟩ ?_ | refine c_false ⟨rfl, rfl⟩ ?_ | (apply l_rdg; rfl; rfl; rfl; exact rd_go; rfl) | refine l_skip rfl rfl rfl rfl ?_ | (apply q_rdg; rfl; rfl; rfl; exact rd_go; rfl) | refine q_skip rfl rfl rfl rfl ?_ | (refine q_end ?_; clear H; intro _ H) | ((first | refine l_st (z_box H ?_) | refine l_st (s_alloc H rfl ?_)); clear H; intro _ _ _ H) | (refine l_st (t_build0 H rfl ?_); clear H; intro _ _ _ _ H) | (refine l_st (z_sto H ?_); clear H; intro _ H) | ((first | refine c_cond ⟨rfl, rfl⟩ ?_ ?_ | refine c_ncond ⟨rfl, rfl⟩ ?_ ?_ | refine l_split rfl rfl ?_ ?_ | refine q_split rfl rfl ?_ ?_ | refine l_nsplit rfl rfl ?_ ?_ | refine q_nsplit rfl rfl ?_ ?_) <;> intro _ <;> try (exfalso; omega)) | (refine l_st (k_call1 evs_auto H ca_Cy4 rfl ?_); clear H; intro _ _ H) | (refine l_st (k_callg1 evs_auto rfl rfl rfl H ca_Cy4 rfl ?_); clear H; intro _ _ H) | refine kq_call1 evs_auto H (fun _ H => ca_Cy4) rfl ?_ | refine kq_callg1 evs_auto rfl rfl rfl H (fun _ H => ca_Cy4) rfl ?_)
  · have hbad : (betwSp p q).2 ≠ 0 := by assumption
    refine retct (i := 0) H rfl rfl rfl rfl rfl rfl rfl (cyc_ret0 H ?_); unfold cycSp; rw [if_pos hbad]
  all_goals obtain ⟨nl, hl1, hl2, hl3⟩ := hlast
  all_goals try (refine retct (i := 0) H rfl rfl rfl rfl rfl rfl rfl (cyc_ret0 H ?_); unfold cycSp; rw [if_neg (by assumption), if_pos (by first | omega | (have := hl2 (by omega); omega) | (have := hl3 (by omega); omega))]; done)
  all_goals
    have hgood : ¬ (betwSp p q).2 ≠ 0 := by assumption
    have hnb : ¬ (number ≤ (anc p.lin q.lin).1 ∨ number < lastTo q.lin) := by
      rw [← hl1]
      first
      | (have h9 := hl3 (by omega); omega)
      | (have h9 := hl2 (by omega); omega)
    have hok := betwOk (p := p) (q := q) (by omega)
    obtain ⟨l1, l2, l3, l4, l5⟩ := hok.len
    have hsp : cycSp p q number time pos = if cycErr ⟨(anc p.lin q.lin).1, number, time, pos, contents q.im (betwSp p q).1⟩ (sizesOf q.im) ≠ 0 then (cyc0, cycErr ⟨(anc p.lin q.lin).1, number, time, pos, contents q.im (betwSp p q).1⟩ (sizesOf q.im)) else (⟨(anc p.lin q.lin).1, number, time, pos, contents q.im (betwSp p q).1⟩, 0) := by
      unfold cycSp; rw [if_neg hgood, if_neg hnb]
    have hLl : (betwSp p q).1.length = q.im.length := by rw [hok.eq]; exact l2
    have hLat' : ∀ i (h : i < q.im.length) (hb : i < (betwSp p q).1.length), q.im[i].length ≤ 4096 ∧ ((betwSp p q).1[i]).length ≤ 4096 ∧ ∀ e ∈ (betwSp p q).1[i], 0 ≤ e.start ∧ 0 ≤ e.count ∧ e.start + e.count ≤ (q.im[i].length : Int) := by
      rw [hok.eq]; exact fun i h hb => hok.at_ h hb
    clear hgood l2
    rw [hsp]
    clear hsp
    generalize (betwSp p q).1 = lst at *
    have hmn : ∀ x ∈ lst, x.length ≤ 4096 := fun x hx => by
      obtain ⟨j, hj, rfl⟩ := List.mem_iff_getElem.1 hx
      exact (hLat' j (by omega) hj).2.1
    have hcl := contUpto_len q.im lst hmn lst.length
    have hcl2 : (contents q.im lst).length ≤ 4096 * 8 := by unfold contents; omega
    refine c_cut [18, 6, 10] (fun vs w' => ∃ (b18 b6 b10 b5 : Nat) (A21 : Option Addr) (c21 : Nat) (A22 : Option Addr) (c22 : Nat) (cs22 : List Value), vs = [lp b18 0, lp b6 0, lp b10 0] ∧
      Hp w M w' [⟨b18, [.int .i64 (anc p.lin q.lin).1, .int .i64 number, .int .i64 time, .slice A21 pos.length c21, .slice A22 (contents q.im lst).length c22], 45⟩, ⟨b10, [.int .i64 0, .int .i64 0, .int .i64 0, .slice none 0 0, .slice none 0 0], 45⟩, ⟨b6, [.int .i64 q.site, .slice B1 q.lin.length d1, .slice B2 q.dirty.length d2, .slice B3 q.im.length d3], 27⟩, ⟨b5, [.int .i64 p.site, .slice A1 p.lin.length c1, .slice A2 p.dirty.length c2, .slice A3 p.im.length c3], 27⟩]
        [⟨.slice A22 (contents q.im lst).length c22, 100, 3, (contents q.im lst).length, cs22⟩, ⟨.slice A21 pos.length c21, 3, 1, pos.length, pos.map (Value.int .i64)⟩] [Chunks kWr 3 (contents q.im lst) cs22, Row kVol 1 B3 q.im]) ?_ ?_
    · refine c_mix H [12] ?_
      clear H; intro w5 H
      have hbw : Below w5.heap.size w5 w5 := Below.refl _ _
      (apply m_rd2 (i := 0) rfl (by decide +kernel) (by first | exact Below.refl _ _ | assumption); exact rd_go; rfl); (apply m_rd2 (i := 1) rfl (by decide +kernel) (by first | exact Below.refl _ _ | assumption); exact rd_go; rfl); (apply m_rd2 (i := 2) rfl (by decide +kernel) (by first | exact Below.refl _ _ | assumption); exact rd_go; rfl); (apply m_rd2 (i := 4) rfl (by decide +kernel) (by first | exact Below.refl _ _ | assumption); exact rd_go; rfl); (apply m_rd2 (i := 6) rfl (by decide +kernel) (by first | exact Below.refl _ _ | assumption); exact rd_go; rfl); (apply m_rd2 (i := 7) rfl (by decide +kernel) (by first | exact Below.refl _ _ | assumption); exact rd_go; rfl); (apply m_rd2 (i := 8) rfl (by decide +kernel) (by first | exact Below.refl _ _ | assumption); exact rd_go; rfl)
      refine m_two (i := 3) (j := 11) (by kernel_rfl) rfl rfl ?_ ?_
      · refine t_build0m H rfl ?_
        intro A20 c20 w20 hb20 hg20 H20
        have hge : ∀ b, (Value.slice A20 0 c20).ownBlock = some b → w5.heap.size ≤ b := fun b hb => Nat.le_trans hbw.size (hg20 b hb)
        have hbw2 := hbw.trans (hb20.mono hbw.size)
        refine ⟨fun _ => hbw2, ?_⟩
        clear H hbw; have H := H20; have hbw := hbw2; clear H20 hbw2
        refine m_two (i := 5) (j := 11) (by kernel_rfl) rfl rfl ?_ ?_
        · first | refine t_append_row (j := 0) (dd := kInt .i64) (xs := pos) H rfl ⟨rfl, rfl⟩ ⟨rfl, rfl⟩ mem_auto (by omega) rfl ?_ | refine t_append_row (j := 1) (dd := kInt .i64) (xs := pos) H rfl ⟨rfl, rfl⟩ ⟨rfl, rfl⟩ mem_auto (by omega) rfl ?_
          intro A21 c21 w21 news hG hn H21
          have hbw2 := hG.below _ _ hbw.size hbw hge
          refine ⟨fun _ => hbw2, ?_⟩
          obtain rfl := chunks_int hn
          simp only [Nat.zero_add, List.nil_append, List.set_cons_zero, List.set_cons_succ] at H21 ⊢
          clear H hbw hge hG hn; have H := H21; have hbw := hbw2; clear H21 hbw2
          refine m_two (i := 9) (j := 11) (by kernel_rfl) rfl rfl ?_ ?_
          · refine k_call evs_auto H (rContents_any _ _ (H.mu_lt hM) q.im lst B3 A5 d3 c5 (by omega) hLl hLat' (H.fact _ mem_auto) (H.fact _ mem_auto)) rfl ?_
            intro v22 w22 hf22 hb22 _
            obtain ⟨A22, c22, cs22, hv22, _, _, H22⟩ := H.take' hb22 hf22
            subst hv22
            have hbw2 := hbw.trans (hb22.mono hbw.size)
            refine ⟨fun _ => hbw2, ?_⟩
            clear H hbw hf22; have H := H22; have hbw := hbw2; clear H22 hbw2
            (apply m_pure (i := 10) rfl (by decide +kernel); intro _; exact rd_go; rfl)
            refine m_one (i := 11) (by kernel_rfl) rfl ?_
            · refine s_alloc H rfl ?_
              intro w23 b23 hb23 H23
              have hbw2 := hbw.trans (hb23.mono hbw.size)
              refine ⟨fun _ => hbw2, ?_⟩
              clear H hbw; have H := H23; have hbw := hbw2; clear H23 hbw2
              refine m_one (i := 12) (by kernel_rfl) rfl (s_storea (i := 0) H ⟨rfl, rfl⟩ rfl ⟨rfl, rfl⟩ rfl rfl rfl ?_)
              intro w24 H24
              exact ⟨fun h => (by cases h), m_end (by kernel_rfl) (ct_n ⟨_, _, _, _, A21, c21, A22, c22, cs22, rfl, (by first | exact H24.weak (List.Sublist.refl _) (List.Sublist.refl _) (by simp) | exact (H24.perm (List.Perm.swap _ _ _)).weak (List.Sublist.refl _) (List.Sublist.refl _) (by simp))⟩)⟩
          · refine s_alloc H rfl ?_
            intro w23 b23 hb23 H23
            have hbw2 := hbw.trans (hb23.mono hbw.size)
            refine ⟨fun _ => hbw2, ?_⟩
            clear H hbw; have H := H23; have hbw := hbw2; clear H23 hbw2
            refine m_one (i := 9) (by kernel_rfl) rfl ?_
            · refine k_call evs_auto H (rContents_any _ _ (H.mu_lt hM) q.im lst B3 A5 d3 c5 (by omega) hLl hLat' (H.fact _ mem_auto) (H.fact _ mem_auto)) rfl ?_
              intro v22 w22 hf22 hb22 _
              obtain ⟨A22, c22, cs22, hv22, _, _, H22⟩ := H.take' hb22 hf22
              subst hv22
              have hbw2 := hbw.trans (hb22.mono hbw.size)
              refine ⟨fun _ => hbw2, ?_⟩
              clear H hbw hf22; have H := H22; have hbw := hbw2; clear H22 hbw2
              (apply m_pure (i := 10) rfl (by decide +kernel); intro _; exact rd_go; rfl)
              refine m_one (i := 12) (by kernel_rfl) rfl (s_storea (i := 0) H ⟨rfl, rfl⟩ rfl ⟨rfl, rfl⟩ rfl rfl rfl ?_)
              intro w24 H24
              exact ⟨fun h => (by cases h), m_end (by kernel_rfl) (ct_n ⟨_, _, _, _, A21, c21, A22, c22, cs22, rfl, (by first | exact H24.weak (List.Sublist.refl _) (List.Sublist.refl _) (by simp) | exact (H24.perm (List.Perm.swap _ _ _)).weak (List.Sublist.refl _) (List.Sublist.refl _) (by simp))⟩)⟩
        · refine s_alloc H rfl ?_
          intro w23 b23 hb23 H23
          have hbw2 := hbw.trans (hb23.mono hbw.size)
          refine ⟨fun _ => hbw2, ?_⟩
          clear H hbw; have H := H23; have hbw := hbw2; clear H23 hbw2
          refine m_one (i := 5) (by kernel_rfl) rfl ?_
          · first | refine t_append_row (j := 0) (dd := kInt .i64) (xs := pos) H rfl ⟨rfl, rfl⟩ ⟨rfl, rfl⟩ mem_auto (by omega) rfl ?_ | refine t_append_row (j := 1) (dd := kInt .i64) (xs := pos) H rfl ⟨rfl, rfl⟩ ⟨rfl, rfl⟩ mem_auto (by omega) rfl ?_
            intro A21 c21 w21 news hG hn H21
            have hbw2 := hG.below _ _ hbw.size hbw hge
            refine ⟨fun _ => hbw2, ?_⟩
            obtain rfl := chunks_int hn
            simp only [Nat.zero_add, List.nil_append, List.set_cons_zero, List.set_cons_succ] at H21 ⊢
            clear H hbw hge hG hn; have H := H21; have hbw := hbw2; clear H21 hbw2
            refine m_one (i := 9) (by kernel_rfl) rfl ?_
            · refine k_call evs_auto H (rContents_any _ _ (H.mu_lt hM) q.im lst B3 A5 d3 c5 (by omega) hLl hLat' (H.fact _ mem_auto) (H.fact _ mem_auto)) rfl ?_
              intro v22 w22 hf22 hb22 _
              obtain ⟨A22, c22, cs22, hv22, _, _, H22⟩ := H.take' hb22 hf22
              subst hv22
              have hbw2 := hbw.trans (hb22.mono hbw.size)
              refine ⟨fun _ => hbw2, ?_⟩
              clear H hbw hf22; have H := H22; have hbw := hbw2; clear H22 hbw2
              (apply m_pure (i := 10) rfl (by decide +kernel); intro _; exact rd_go; rfl)
              refine m_one (i := 12) (by kernel_rfl) rfl (s_storea (i := 0) H ⟨rfl, rfl⟩ rfl ⟨rfl, rfl⟩ rfl rfl rfl ?_)
              intro w24 H24
              exact ⟨fun h => (by cases h), m_end (by kernel_rfl) (ct_n ⟨_, _, _, _, A21, c21, A22, c22, cs22, rfl, (by first | exact H24.weak (List.Sublist.refl _) (List.Sublist.refl _) (by simp) | exact (H24.perm (List.Perm.swap _ _ _)).weak (List.Sublist.refl _) (List.Sublist.refl _) (by simp))⟩)⟩
      · refine s_alloc H rfl ?_
        intro w23 b23 hb23 H23
        have hbw2 := hbw.trans (hb23.mono hbw.size)
        refine ⟨fun _ => hbw2, ?_⟩
        clear H hbw; have H := H23; have hbw := hbw2; clear H23 hbw2
        refine m_one (i := 3) (by kernel_rfl) rfl ?_
        · refine t_build0m H rfl ?_
          intro A20 c20 w20 hb20 hg20 H20
          have hge : ∀ b, (Value.slice A20 0 c20).ownBlock = some b → w5.heap.size ≤ b := fun b hb => Nat.le_trans hbw.size (hg20 b hb)
          have hbw2 := hbw.trans (hb20.mono hbw.size)
          refine ⟨fun _ => hbw2, ?_⟩
          clear H hbw; have H := H20; have hbw := hbw2; clear H20 hbw2
          refine m_one (i := 5) (by kernel_rfl) rfl ?_
          · first | refine t_append_row (j := 0) (dd := kInt .i64) (xs := pos) H rfl ⟨rfl, rfl⟩ ⟨rfl, rfl⟩ mem_auto (by omega) rfl ?_ | refine t_append_row (j := 1) (dd := kInt .i64) (xs := pos) H rfl ⟨rfl, rfl⟩ ⟨rfl, rfl⟩ mem_auto (by omega) rfl ?_
            intro A21 c21 w21 news hG hn H21
            have hbw2 := hG.below _ _ hbw.size hbw hge
            refine ⟨fun _ => hbw2, ?_⟩
            obtain rfl := chunks_int hn
            simp only [Nat.zero_add, List.nil_append, List.set_cons_zero, List.set_cons_succ] at H21 ⊢
            clear H hbw hge hG hn; have H := H21; have hbw := hbw2; clear H21 hbw2
            refine m_one (i := 9) (by kernel_rfl) rfl ?_
            · refine k_call evs_auto H (rContents_any _ _ (H.mu_lt hM) q.im lst B3 A5 d3 c5 (by omega) hLl hLat' (H.fact _ mem_auto) (H.fact _ mem_auto)) rfl ?_
              intro v22 w22 hf22 hb22 _
              obtain ⟨A22, c22, cs22, hv22, _, _, H22⟩ := H.take' hb22 hf22
              subst hv22
              have hbw2 := hbw.trans (hb22.mono hbw.size)
              refine ⟨fun _ => hbw2, ?_⟩
              clear H hbw hf22; have H := H22; have hbw := hbw2; clear H22 hbw2
              (apply m_pure (i := 10) rfl (by decide +kernel); intro _; exact rd_go; rfl)
              refine m_one (i := 12) (by kernel_rfl) rfl (s_storea (i := 0) H ⟨rfl, rfl⟩ rfl ⟨rfl, rfl⟩ rfl rfl rfl ?_)
              intro w24 H24
              exact ⟨fun h => (by cases h), m_end (by kernel_rfl) (ct_n ⟨_, _, _, _, A21, c21, A22, c22, cs22, rfl, (by first | exact H24.weak (List.Sublist.refl _) (List.Sublist.refl _) (by simp) | exact (H24.perm (List.Perm.swap _ _ _)).weak (List.Sublist.refl _) (List.Sublist.refl _) (by simp))⟩)⟩
    · rintro vs E0 w30 ⟨b18, b6, b10, b5, A21, c21, A22, c22, cs22, rfl, H⟩
      repeat' (first | (apply l_rd; exact rd_go; rfl) | (apply q_rd; exact rd_go; rfl) | refine stp ?_ | refine bk_o rfl ?_ | refine c_true ⟨rfl, rfl⟩ ?_ | refine c_false ⟨rfl, rfl⟩ ?_ | (apply l_rdg; rfl; rfl; rfl; exact rd_go; rfl) | refine l_skip rfl rfl rfl rfl ?_ | (apply q_rdg; rfl; rfl; rfl; exact rd_go; rfl) | refine q_skip rfl rfl rfl rfl ?_ | (refine q_end ?_; clear H; intro _ H) | ((first | refine l_st (z_box H ?_) | refine l_st (s_alloc H rfl ?_)); clear H; intro _ _ _ H) | (refine l_st (t_build0 H rfl ?_); clear H; intro _ _ _ _ H) | (refine l_st (z_sto H ?_); clear H; intro _ H) | ((first | refine c_cond ⟨rfl, rfl⟩ ?_ ?_ | refine c_ncond ⟨rfl, rfl⟩ ?_ ?_ | refine l_split rfl rfl ?_ ?_ | refine q_split rfl rfl ?_ ?_ | refine l_nsplit rfl rfl ?_ ?_ | refine q_nsplit rfl rfl ?_ ?_) <;> intro _ <;> try (exfalso; omega)) | (refine l_st (k_call1 evs_auto H ca_Cy4 rfl ?_); clear H; intro _ _ H) | (refine l_st (k_callg1 evs_auto rfl rfl rfl H ca_Cy4 rfl ?_); clear H; intro _ _ H) | refine kq_call1 evs_auto H (fun _ H => ca_Cy4) rfl ?_ | refine kq_callg1 evs_auto rfl rfl rfl H (fun _ H => ca_Cy4) rfl ?_)
      refine c_mix H [] ?_
      clear H; intro w31 H
      (apply m_rd2 (i := 0) rfl (by decide +kernel) (by first | exact Below.refl _ _ | assumption); exact rd_go; rfl); (apply m_rd2 (i := 1) rfl (by decide +kernel) (by first | exact Below.refl _ _ | assumption); exact rd_go; rfl); (apply m_rd2 (i := 2) rfl (by decide +kernel) (by first | exact Below.refl _ _ | assumption); exact rd_go; rfl)
      refine m_one (i := 3) (by kernel_rfl) rfl (k_call evs_auto H (rSizesOf_any _ q.im B3 d3 _ hi' (H.fact _ mem_auto)) rfl ?_)
      intro v7 w7 hf7 hb7 _
      obtain ⟨A7, c7, hv7, _, _, H7⟩ := H.takeRow hb7 hf7 hM Nat.zero_lt_one (by rw [sizesOf_len]; omega)
      subst hv7
      clear H hf7; have H := H7; clear H7
      refine ⟨fun _ => hb7, ?_⟩
      have g1 := H.own_row0 (j := 1) rfl hprng rfl (by omega)
      have g2 := H.own_rowF (dd := kWr) (xs := contents q.im lst) (j := 0) rfl mem_auto (by decide) rfl (by omega)
      have g3 := (H.fact (Row (kInt .i64) 1 A7 (sizesOf q.im)) mem_auto).none
      have hcy := rCyc_any (fun _ => False) ⟨(anc p.lin q.lin).1, number, time, pos, contents q.im lst⟩ (sizesOf q.im) A21 A22 A7 c21 c22 c7 _ g1 g2 g3
      refine m_one (i := 4) (by kernel_rfl) rfl (k_call1 evs_auto H hcy rfl ?_)
      clear g1 g2 g3 hcy; intro w8 hb8 H8
      refine ⟨fun _ => hb7.trans (hb8.mono hb7.size), ?_⟩
      clear H; have H := H8; clear H8
      (apply m_pure (i := 5) rfl (by decide +kernel); intro _; exact rd_go; rfl)
      refine m_end (by kernel_rfl) ?_
      repeat' (first | (apply l_rd; exact rd_go; rfl) | (apply q_rd; exact rd_go; rfl) | refine stp ?_ | refine bk_o rfl ?_ | refine c_true ⟨rfl, rfl⟩ ?_ | refine c_false ⟨rfl, rfl⟩ ?_ | (apply l_rdg; rfl; rfl; rfl; exact rd_go; rfl) | refine l_skip rfl rfl rfl rfl ?_ | (apply q_rdg; rfl; rfl; rfl; exact rd_go; rfl) | refine q_skip rfl rfl rfl rfl ?_ | (refine q_end ?_; clear H; intro _ H) | ((first | refine l_st (z_box H ?_) | refine l_st (s_alloc H rfl ?_)); clear H; intro _ _ _ H) | (refine l_st (t_build0 H rfl ?_); clear H; intro _ _ _ _ H) | (refine l_st (z_sto H ?_); clear H; intro _ H) | ((first | refine c_cond ⟨rfl, rfl⟩ ?_ ?_ | refine c_ncond ⟨rfl, rfl⟩ ?_ ?_ | refine l_split rfl rfl ?_ ?_ | refine q_split rfl rfl ?_ ?_ | refine l_nsplit rfl rfl ?_ ?_ | refine q_nsplit rfl rfl ?_ ?_) <;> intro _ <;> try (exfalso; omega)) | (refine l_st (k_call1 evs_auto H ca_Cy4 rfl ?_); clear H; intro _ _ H) | (refine l_st (k_callg1 evs_auto rfl rfl rfl H ca_Cy4 rfl ?_); clear H; intro _ _ H) | refine kq_call1 evs_auto H (fun _ H => ca_Cy4) rfl ?_ | refine kq_callg1 evs_auto rfl rfl rfl H (fun _ H => ca_Cy4) rfl ?_)
      · have hne : cycErr ⟨(anc p.lin q.lin).1, number, time, pos, contents q.im lst⟩ (sizesOf q.im) ≠ 0 := by assumption
        refine retct (i := 1) H rfl rfl rfl rfl rfl rfl rfl (cyc_ret0 H ?_); rw [if_pos hne]
      · have hne : ¬ cycErr ⟨(anc p.lin q.lin).1, number, time, pos, contents q.im lst⟩ (sizesOf q.im) ≠ 0 := by assumption
        refine retct (i := 1) H rfl rfl rfl rfl rfl rfl rfl ?_
        rw [if_neg hne]
        exact ⟨_, _, rfl, ints_ret (j := 1) H rfl hprng rfl, H.fresh (j := 0) rfl mem_auto rfl⟩
end
end Go.Proofs.YtiolpldihoghiaaDoor

namespace Go.Proofs.YtiolpldihoghiaaDoor
open Go.RowKit
set_option linter.unusedVariables false
set_option linter.unusedSimpArgs false
set_option maxHeartbeats 8000000
theorem ca_Lu1 {k : FuncId} {vs : List Value} {w1 : World} {v : Value} (h : Ret Tryd.prog k vs w1 (fun u _ => u = v) := by first | exact rFewPt_any _ _ _ _ _ _ _ _ _ (by assumption) (H.fact _ mem_auto) (H.fact _ mem_auto) (H.fact _ mem_auto) | exact awake_any _ _ (H.mu_lt hM) (H.fact _ mem_auto)) : Ret Tryd.prog k vs w1 (fun u _ => u = v) := h
theorem undoSp_len (p : Pt) (n : Int) (h : p.dirty.length ≤ 1000000) : (undoSp p n).1.length ≤ 1000000 := by
  unfold undoSp; repeat' split
  · simp
  · simp
  · simpa using h
theorem fewPt_len {p : Pt} (h : fewPt p) : p.dirty.length ≤ 1000000 ∧ p.im.length ≤ 1000000 := by
  obtain ⟨_, _, h1, h2⟩ := h
  unfold fewIm at h2
  omega
section
variable (M : Nat → Prop) (w : World) (hM : ∀ b, M b → b < w.heap.size) (p q : Pt) (A1 A2 A3 B1 B2 B3 : Option Addr) (c1 c2 c3 d1 d2 d3 : Nat) (number : Int) (hs : rng .i64 p.site) (hs' : rng .i64 q.site)
  (h1 : Stab w M (Row kSpan 3 A1 p.lin)) (h2 : Stab w M (Row kBm 2 A2 p.dirty)) (h3 : Stab w M (Row kVol 1 A3 p.im)) (k1 : Stab w M (Row kSpan 3 B1 q.lin)) (k2 : Stab w M (Row kBm 2 B2 q.dirty)) (k3 : Stab w M (Row kVol 1 B3 q.im)) (hT : Stab w M TabF)
include hM hs hs' h1 h2 h3 k1 k2 k3 hT
theorem undoes_any :
    Ret Tryd.prog 3 [.agg [.int .i64 p.site, .slice A1 p.lin.length c1, .slice A2 p.dirty.length c2, .slice A3 p.im.length c3].toArray, .agg [.int .i64 q.site, .slice B1 q.lin.length d1, .slice B2 q.dirty.length d2, .slice B3 q.im.length d3].toArray, .int .i64 number] w fun v _ => v = .bool true := by
  refine enter (M := M) (F := [Row kSpan 3 A1 p.lin, Row kBm 2 A2 p.dirty, Row kVol 1 A3 p.im, Row kSpan 3 B1 q.lin, Row kBm 2 B2 q.dirty, Row kVol 1 B3 q.im, TabF]) Tryd.func3 rfl rfl rfl (by simpa using ⟨h1, h2, h3, k1, k2, k3, hT⟩) fun H => ?_
  repeat' (first | (apply l_rd; exact rd_go; rfl) | (apply q_rd; exact rd_go; rfl) | refine stp ?_ | refine bk_o rfl ?_ | refine c_true ⟨rfl, rfl⟩ ?_ | refine c_false ⟨rfl, rfl⟩ ?_ | (apply l_rdg; rfl; rfl; rfl; exact rd_go; rfl) | refine l_skip rfl rfl rfl rfl ?_ | (apply q_rdg; rfl; rfl; rfl; exact rd_go; rfl) | refine q_skip rfl rfl rfl rfl ?_ | refine c_draw H (by kernel_rfl) ?_ | (refine q_end ?_; clear H; intro _ H) | ((first | refine l_st (z_box H ?_) | refine l_st (s_alloc H rfl ?_)); clear H; intro _ _ _ H) | (refine l_st (t_build0 H rfl ?_); clear H; intro _ _ _ _ H) | (refine l_st (z_sto H ?_); clear H; intro _ H) | ((first | refine c_cond ⟨rfl, rfl⟩ ?_ ?_ | refine c_ncond ⟨rfl, rfl⟩ ?_ ?_ | refine l_split rfl rfl ?_ ?_ | refine q_split rfl rfl ?_ ?_ | refine l_nsplit rfl rfl ?_ ?_ | refine q_nsplit rfl rfl ?_ ?_) <;> intro _ <;> try (exfalso; omega)) | (refine l_st (k_call1 evs_auto H ca_Lu1 rfl ?_); clear H; intro _ _ H) | (refine l_st (k_callg1 evs_auto rfl rfl rfl H ca_Lu1 rfl ?_); clear H; intro _ _ H) | refine kq_call1 evs_auto H (fun _ H => ca_Lu1) rfl ?_ | refine kq_callg1 evs_auto rfl rfl rfl H (fun _ H => ca_Lu1) rfl ?_)
  · exact ret1 H rfl rfl rfl rfl
  · exact ret1 H rfl rfl rfl rfl
  have hp : fewPt p := by assumption
  have hq : fewPt q := by assumption
  obtain ⟨p1, p2⟩ := fewPt_len hp
  obtain ⟨q1, q2⟩ := fewPt_len hq
  refine l_st (k_call evs_auto H (undo_any H.mu _ (H.mu_lt hM) p number A1 A2 A3 c1 c2 c3 hs p1 p2 (H.fact _ mem_auto) (H.fact _ mem_auto) (H.fact _ mem_auto) (H.fact _ mem_auto)) rfl ?_)
  rintro _ w1 ⟨v1, rfl, hf⟩ hb H1
  obtain ⟨A10, c10, hv, _, _, hr⟩ := hf.row (H.mu_lt hM) Nat.zero_lt_one (by have := undoSp_len p number p1; omega)
  subst hv
  have H2 := H1.add hr; clear hf hr H H1; have H := H2; clear H2
  repeat' (first | (apply l_rd; exact rd_go; rfl) | (apply q_rd; exact rd_go; rfl) | refine stp ?_ | refine bk_o rfl ?_ | refine c_true ⟨rfl, rfl⟩ ?_ | refine c_false ⟨rfl, rfl⟩ ?_ | (apply l_rdg; rfl; rfl; rfl; exact rd_go; rfl) | refine l_skip rfl rfl rfl rfl ?_ | (apply q_rdg; rfl; rfl; rfl; exact rd_go; rfl) | refine q_skip rfl rfl rfl rfl ?_ | refine c_draw H (by kernel_rfl) ?_ | (refine q_end ?_; clear H; intro _ H) | ((first | refine l_st (z_box H ?_) | refine l_st (s_alloc H rfl ?_)); clear H; intro _ _ _ H) | (refine l_st (t_build0 H rfl ?_); clear H; intro _ _ _ _ H) | (refine l_st (z_sto H ?_); clear H; intro _ H) | ((first | refine c_cond ⟨rfl, rfl⟩ ?_ ?_ | refine c_ncond ⟨rfl, rfl⟩ ?_ ?_ | refine l_split rfl rfl ?_ ?_ | refine q_split rfl rfl ?_ ?_ | refine l_nsplit rfl rfl ?_ ?_ | refine q_nsplit rfl rfl ?_ ?_) <;> intro _ <;> try (exfalso; omega)) | (refine l_st (k_call1 evs_auto H ca_Lu1 rfl ?_); clear H; intro _ _ H) | (refine l_st (k_callg1 evs_auto rfl rfl rfl H ca_Lu1 rfl ?_); clear H; intro _ _ H) | refine kq_call1 evs_auto H (fun _ H => ca_Lu1) rfl ?_ | refine kq_callg1 evs_auto rfl rfl rfl H (fun _ H => ca_Lu1) rfl ?_)
  refine l_st (k_call evs_auto H (rUndo_any H.mu _ (H.mu_lt hM) p number A1 A2 A3 c1 c2 c3 hs p1 p2 (H.fact _ mem_auto) (H.fact _ mem_auto) (H.fact _ mem_auto)) rfl ?_)
  rintro _ w2 ⟨v1, rfl, hf⟩ hb H1
  obtain ⟨A11, c11, hv, _, _, hr⟩ := hf.row (H.mu_lt hM) Nat.zero_lt_one (by have := undoSp_len p number p1; omega)
  subst hv
  have H2 := H1.add hr; clear hf hr H H1; have H := H2; clear H2
  repeat' (first | (apply l_rd; exact rd_go; rfl) | (apply q_rd; exact rd_go; rfl) | refine stp ?_ | refine bk_o rfl ?_ | refine c_true ⟨rfl, rfl⟩ ?_ | refine c_false ⟨rfl, rfl⟩ ?_ | (apply l_rdg; rfl; rfl; rfl; exact rd_go; rfl) | refine l_skip rfl rfl rfl rfl ?_ | (apply q_rdg; rfl; rfl; rfl; exact rd_go; rfl) | refine q_skip rfl rfl rfl rfl ?_ | refine c_draw H (by kernel_rfl) ?_ | (refine q_end ?_; clear H; intro _ H) | ((first | refine l_st (z_box H ?_) | refine l_st (s_alloc H rfl ?_)); clear H; intro _ _ _ H) | (refine l_st (t_build0 H rfl ?_); clear H; intro _ _ _ _ H) | (refine l_st (z_sto H ?_); clear H; intro _ H) | ((first | refine c_cond ⟨rfl, rfl⟩ ?_ ?_ | refine c_ncond ⟨rfl, rfl⟩ ?_ ?_ | refine l_split rfl rfl ?_ ?_ | refine q_split rfl rfl ?_ ?_ | refine l_nsplit rfl rfl ?_ ?_ | refine q_nsplit rfl rfl ?_ ?_) <;> intro _ <;> try (exfalso; omega)) | (refine l_st (k_call1 evs_auto H ca_Lu1 rfl ?_); clear H; intro _ _ H) | (refine l_st (k_callg1 evs_auto rfl rfl rfl H ca_Lu1 rfl ?_); clear H; intro _ _ H) | refine kq_call1 evs_auto H (fun _ H => ca_Lu1) rfl ?_ | refine kq_callg1 evs_auto rfl rfl rfl H (fun _ H => ca_Lu1) rfl ?_)
  refine l_st (k_call evs_auto H (xtents_any H.mu _ (H.mu_lt hM) p q A1 A2 A3 B1 B2 B3 c1 c2 c3 d1 d2 d3 hs p1 p2 hs' q1 q2 (H.fact _ mem_auto) (H.fact _ mem_auto) (H.fact _ mem_auto) (H.fact _ mem_auto) (H.fact _ mem_auto) (H.fact _ mem_auto) (H.fact _ mem_auto)) rfl ?_)
  rintro _ w3 ⟨v1, rfl, hf⟩ hb H1
  obtain ⟨A12, c12, hv, _, _, hr⟩ := hf.row (H.mu_lt hM) Nat.zero_lt_one (by have := betwSp_len p q p1; omega)
  subst hv
  have H2 := H1.add hr; clear hf hr H H1; have H := H2; clear H2
  repeat' (first | (apply l_rd; exact rd_go; rfl) | (apply q_rd; exact rd_go; rfl) | refine stp ?_ | refine bk_o rfl ?_ | refine c_true ⟨rfl, rfl⟩ ?_ | refine c_false ⟨rfl, rfl⟩ ?_ | (apply l_rdg; rfl; rfl; rfl; exact rd_go; rfl) | refine l_skip rfl rfl rfl rfl ?_ | (apply q_rdg; rfl; rfl; rfl; exact rd_go; rfl) | refine q_skip rfl rfl rfl rfl ?_ | refine c_draw H (by kernel_rfl) ?_ | (refine q_end ?_; clear H; intro _ H) | ((first | refine l_st (z_box H ?_) | refine l_st (s_alloc H rfl ?_)); clear H; intro _ _ _ H) | (refine l_st (t_build0 H rfl ?_); clear H; intro _ _ _ _ H) | (refine l_st (z_sto H ?_); clear H; intro _ H) | ((first | refine c_cond ⟨rfl, rfl⟩ ?_ ?_ | refine c_ncond ⟨rfl, rfl⟩ ?_ ?_ | refine l_split rfl rfl ?_ ?_ | refine q_split rfl rfl ?_ ?_ | refine l_nsplit rfl rfl ?_ ?_ | refine q_nsplit rfl rfl ?_ ?_) <;> intro _ <;> try (exfalso; omega)) | (refine l_st (k_call1 evs_auto H ca_Lu1 rfl ?_); clear H; intro _ _ H) | (refine l_st (k_callg1 evs_auto rfl rfl rfl H ca_Lu1 rfl ?_); clear H; intro _ _ H) | refine kq_call1 evs_auto H (fun _ H => ca_Lu1) rfl ?_ | refine kq_callg1 evs_auto rfl rfl rfl H (fun _ H => ca_Lu1) rfl ?_)
  refine l_st (k_call evs_auto H (rXtents_any H.mu _ (H.mu_lt hM) p q A1 A2 A3 B1 B2 B3 c1 c2 c3 d1 d2 d3 hs p1 p2 hs' q1 q2 (H.fact _ mem_auto) (H.fact _ mem_auto) (H.fact _ mem_auto) (H.fact _ mem_auto) (H.fact _ mem_auto) (H.fact _ mem_auto) (H.fact _ mem_auto)) rfl ?_)
  rintro _ w4 ⟨v1, rfl, hf⟩ hb H1
  obtain ⟨A13, c13, hv, _, _, hr⟩ := hf.row (H.mu_lt hM) Nat.zero_lt_one (by have := betwSp_len p q p1; omega)
  subst hv
  have H2 := H1.add hr; clear hf hr H H1; have H := H2; clear H2
  repeat' (first | (apply l_rd; exact rd_go; rfl) | (apply q_rd; exact rd_go; rfl) | refine stp ?_ | refine bk_o rfl ?_ | refine c_true ⟨rfl, rfl⟩ ?_ | refine c_false ⟨rfl, rfl⟩ ?_ | (apply l_rdg; rfl; rfl; rfl; exact rd_go; rfl) | refine l_skip rfl rfl rfl rfl ?_ | (apply q_rdg; rfl; rfl; rfl; exact rd_go; rfl) | refine q_skip rfl rfl rfl rfl ?_ | refine c_draw H (by kernel_rfl) ?_ | (refine q_end ?_; clear H; intro _ H) | ((first | refine l_st (z_box H ?_) | refine l_st (s_alloc H rfl ?_)); clear H; intro _ _ _ H) | (refine l_st (t_build0 H rfl ?_); clear H; intro _ _ _ _ H) | (refine l_st (z_sto H ?_); clear H; intro _ H) | ((first | refine c_cond ⟨rfl, rfl⟩ ?_ ?_ | refine c_ncond ⟨rfl, rfl⟩ ?_ ?_ | refine l_split rfl rfl ?_ ?_ | refine q_split rfl rfl ?_ ?_ | refine l_nsplit rfl rfl ?_ ?_ | refine q_nsplit rfl rfl ?_ ?_) <;> intro _ <;> try (exfalso; omega)) | (refine l_st (k_call1 evs_auto H ca_Lu1 rfl ?_); clear H; intro _ _ H) | (refine l_st (k_callg1 evs_auto rfl rfl rfl H ca_Lu1 rfl ?_); clear H; intro _ _ H) | refine kq_call1 evs_auto H (fun _ H => ca_Lu1) rfl ?_ | refine kq_callg1 evs_auto rfl rfl rfl H (fun _ H => ca_Lu1) rfl ?_)
  have hsx := sameExtss_any _ (undoSp p number).1 (undoSp p number).1 A10 A11 c10 c11 _ (H.fact _ mem_auto) (H.fact _ mem_auto)
  rw [decide_eq_true rfl] at hsx
  refine l_st (k_callg1 evs_auto rfl rfl rfl H hsx rfl ?_)
  clear H hsx; intro _ _ H
  repeat' (first | (apply l_rd; exact rd_go; rfl) | (apply q_rd; exact rd_go; rfl) | refine stp ?_ | refine bk_o rfl ?_ | refine c_true ⟨rfl, rfl⟩ ?_ | refine c_false ⟨rfl, rfl⟩ ?_ | (apply l_rdg; rfl; rfl; rfl; exact rd_go; rfl) | refine l_skip rfl rfl rfl rfl ?_ | (apply q_rdg; rfl; rfl; rfl; exact rd_go; rfl) | refine q_skip rfl rfl rfl rfl ?_ | refine c_draw H (by kernel_rfl) ?_ | (refine q_end ?_; clear H; intro _ H) | ((first | refine l_st (z_box H ?_) | refine l_st (s_alloc H rfl ?_)); clear H; intro _ _ _ H) | (refine l_st (t_build0 H rfl ?_); clear H; intro _ _ _ _ H) | (refine l_st (z_sto H ?_); clear H; intro _ H) | ((first | refine c_cond ⟨rfl, rfl⟩ ?_ ?_ | refine c_ncond ⟨rfl, rfl⟩ ?_ ?_ | refine l_split rfl rfl ?_ ?_ | refine q_split rfl rfl ?_ ?_ | refine l_nsplit rfl rfl ?_ ?_ | refine q_nsplit rfl rfl ?_ ?_) <;> intro _ <;> try (exfalso; omega)) | (refine l_st (k_call1 evs_auto H ca_Lu1 rfl ?_); clear H; intro _ _ H) | (refine l_st (k_callg1 evs_auto rfl rfl rfl H ca_Lu1 rfl ?_); clear H; intro _ _ H) | refine kq_call1 evs_auto H (fun _ H => ca_Lu1) rfl ?_ | refine kq_callg1 evs_auto rfl rfl rfl H (fun _ H => ca_Lu1) rfl ?_)
  have hsx := sameExtss_any _ (betwSp p q).1 (betwSp p q).1 A12 A13 c12 c13 _ (H.fact _ mem_auto) (H.fact _ mem_auto)
  rw [decide_eq_true rfl] at hsx
  refine l_st (k_callg1 evs_auto rfl rfl rfl H hsx rfl ?_)
  clear H hsx; intro _ _ H
  repeat' (first | (apply l_rd; exact rd_go; rfl) | (apply q_rd; exact rd_go; rfl) | refine stp ?_ | refine bk_o rfl ?_ | refine c_true ⟨rfl, rfl⟩ ?_ | refine c_false ⟨rfl, rfl⟩ ?_ | (apply l_rdg; rfl; rfl; rfl; exact rd_go; rfl) | refine l_skip rfl rfl rfl rfl ?_ | (apply q_rdg; rfl; rfl; rfl; exact rd_go; rfl) | refine q_skip rfl rfl rfl rfl ?_ | refine c_draw H (by kernel_rfl) ?_ | (refine q_end ?_; clear H; intro _ H) | ((first | refine l_st (z_box H ?_) | refine l_st (s_alloc H rfl ?_)); clear H; intro _ _ _ H) | (refine l_st (t_build0 H rfl ?_); clear H; intro _ _ _ _ H) | (refine l_st (z_sto H ?_); clear H; intro _ H) | ((first | refine c_cond ⟨rfl, rfl⟩ ?_ ?_ | refine c_ncond ⟨rfl, rfl⟩ ?_ ?_ | refine l_split rfl rfl ?_ ?_ | refine q_split rfl rfl ?_ ?_ | refine l_nsplit rfl rfl ?_ ?_ | refine q_nsplit rfl rfl ?_ ?_) <;> intro _ <;> try (exfalso; omega)) | (refine l_st (k_call1 evs_auto H ca_Lu1 rfl ?_); clear H; intro _ _ H) | (refine l_st (k_callg1 evs_auto rfl rfl rfl H ca_Lu1 rfl ?_); clear H; intro _ _ H) | refine kq_call1 evs_auto H (fun _ H => ca_Lu1) rfl ?_ | refine kq_callg1 evs_auto rfl rfl rfl H (fun _ H => ca_Lu1) rfl ?_)
  exact ret1 H rfl rfl rfl (bv (decide_eq_true rfl))
end
end Go.Proofs.YtiolpldihoghiaaDoor

namespace Go.Proofs.YtiolpldihoghiaaDoor
open Go.RowKit
set_option linter.unusedVariables false
set_option linter.unusedSimpArgs false
set_option maxHeartbeats 8000000
theorem ca_Lu2 {k : FuncId} {vs : List Value} {w1 : World} {v : Value} (h : Ret Tryd.prog k vs w1 (fun u _ => u = v) := by first | exact rFewPt_any _ _ _ _ _ _ _ _ _ (by assumption) (H.fact _ mem_auto) (H.fact _ mem_auto) (H.fact _ mem_auto) | exact awake_any _ _ (H.mu_lt hM) (H.fact _ mem_auto)) : Ret Tryd.prog k vs w1 (fun u _ => u = v) := h
theorem rSameCyc_any (M : Nat → Prop) (y : Cyc) (A1 A2 B1 B2 : Option Addr) (c1 c2 d1 d2 : Nat) (w : World) (h1 : Stab w M (Row (kInt .i64) 1 A1 y.pos)) (h2 : Stab w M (Row kWr 3 A2 y.writes)) (k1 : Stab w M (Row (kInt .i64) 1 B1 y.pos)) (k2 : Stab w M (Row kWr 3 B2 y.writes)) :
    Ret Tryd.prog 19 [.agg [.int .i64 y.base, .int .i64 y.number, .int .i64 y.time, .slice A1 y.pos.length c1, .slice A2 y.writes.length c2].toArray, .agg [.int .i64 y.base, .int .i64 y.number, .int .i64 y.time, .slice B1 y.pos.length d1, .slice B2 y.writes.length d2].toArray] w fun v _ => v = .bool true := by
  refine enter (M := M) (F := [Row (kInt .i64) 1 A1 y.pos, Row kWr 3 A2 y.writes, Row (kInt .i64) 1 B1 y.pos, Row kWr 3 B2 y.writes]) Tryd.func19 rfl rfl rfl (by simpa using ⟨h1, h2, k1, k2⟩) fun H => ?_
  repeat' (first | (apply l_rd; exact rd_go; rfl) | (apply q_rd; exact rd_go; rfl) | refine stp ?_ | refine bk_o rfl ?_ | refine c_true ⟨rfl, rfl⟩ ?_ | refine c_false ⟨rfl, rfl⟩ ?_ | (apply l_rdg; rfl; rfl; rfl; exact rd_go; rfl) | refine l_skip rfl rfl rfl rfl ?_ | (apply q_rdg; rfl; rfl; rfl; exact rd_go; rfl) | refine q_skip rfl rfl rfl rfl ?_ | refine c_draw H (by kernel_rfl) ?_ | (refine q_end ?_; clear H; intro _ H) | ((first | refine l_st (z_box H ?_) | refine l_st (s_alloc H rfl ?_)); clear H; intro _ _ _ H) | (refine l_st (t_build0 H rfl ?_); clear H; intro _ _ _ _ H) | (refine l_st (z_sto H ?_); clear H; intro _ H) | ((first | refine c_cond ⟨rfl, rfl⟩ ?_ ?_ | refine c_ncond ⟨rfl, rfl⟩ ?_ ?_ | refine l_split rfl rfl ?_ ?_ | refine q_split rfl rfl ?_ ?_ | refine l_nsplit rfl rfl ?_ ?_ | refine q_nsplit rfl rfl ?_ ?_) <;> intro _ <;> try (exfalso; omega)) | (refine l_st (k_call1 evs_auto H ca_Lu2 rfl ?_); clear H; intro _ _ H) | (refine l_st (k_callg1 evs_auto rfl rfl rfl H ca_Lu2 rfl ?_); clear H; intro _ _ H) | refine kq_call1 evs_auto H (fun _ H => ca_Lu2) rfl ?_ | refine kq_callg1 evs_auto rfl rfl rfl H (fun _ H => ca_Lu2) rfl ?_)
  have hi := rSameInts23 _ y.pos y.pos A1 B1 c1 d1 _ (H.fact _ mem_auto) (H.fact _ mem_auto)
  rw [decide_eq_true rfl] at hi
  refine l_st (k_callg1 evs_auto rfl rfl rfl H hi rfl ?_)
  clear H hi; intro _ _ H
  repeat' (first | (apply l_rd; exact rd_go; rfl) | (apply q_rd; exact rd_go; rfl) | refine stp ?_ | refine bk_o rfl ?_ | refine c_true ⟨rfl, rfl⟩ ?_ | refine c_false ⟨rfl, rfl⟩ ?_ | (apply l_rdg; rfl; rfl; rfl; exact rd_go; rfl) | refine l_skip rfl rfl rfl rfl ?_ | (apply q_rdg; rfl; rfl; rfl; exact rd_go; rfl) | refine q_skip rfl rfl rfl rfl ?_ | refine c_draw H (by kernel_rfl) ?_ | (refine q_end ?_; clear H; intro _ H) | ((first | refine l_st (z_box H ?_) | refine l_st (s_alloc H rfl ?_)); clear H; intro _ _ _ H) | (refine l_st (t_build0 H rfl ?_); clear H; intro _ _ _ _ H) | (refine l_st (z_sto H ?_); clear H; intro _ H) | ((first | refine c_cond ⟨rfl, rfl⟩ ?_ ?_ | refine c_ncond ⟨rfl, rfl⟩ ?_ ?_ | refine l_split rfl rfl ?_ ?_ | refine q_split rfl rfl ?_ ?_ | refine l_nsplit rfl rfl ?_ ?_ | refine q_nsplit rfl rfl ?_ ?_) <;> intro _ <;> try (exfalso; omega)) | (refine l_st (k_call1 evs_auto H ca_Lu2 rfl ?_); clear H; intro _ _ H) | (refine l_st (k_callg1 evs_auto rfl rfl rfl H ca_Lu2 rfl ?_); clear H; intro _ _ H) | refine kq_call1 evs_auto H (fun _ H => ca_Lu2) rfl ?_ | refine kq_callg1 evs_auto rfl rfl rfl H (fun _ H => ca_Lu2) rfl ?_)
  have hw := sameWrs_any _ y.writes y.writes A2 B2 c2 d2 _ (H.fact _ mem_auto) (H.fact _ mem_auto)
  rw [decide_eq_true rfl] at hw
  refine l_st (k_callg1 evs_auto rfl rfl rfl H hw rfl ?_)
  clear H hw; intro _ _ H
  repeat' (first | (apply l_rd; exact rd_go; rfl) | (apply q_rd; exact rd_go; rfl) | refine stp ?_ | refine bk_o rfl ?_ | refine c_true ⟨rfl, rfl⟩ ?_ | refine c_false ⟨rfl, rfl⟩ ?_ | (apply l_rdg; rfl; rfl; rfl; exact rd_go; rfl) | refine l_skip rfl rfl rfl rfl ?_ | (apply q_rdg; rfl; rfl; rfl; exact rd_go; rfl) | refine q_skip rfl rfl rfl rfl ?_ | refine c_draw H (by kernel_rfl) ?_ | (refine q_end ?_; clear H; intro _ H) | ((first | refine l_st (z_box H ?_) | refine l_st (s_alloc H rfl ?_)); clear H; intro _ _ _ H) | (refine l_st (t_build0 H rfl ?_); clear H; intro _ _ _ _ H) | (refine l_st (z_sto H ?_); clear H; intro _ H) | ((first | refine c_cond ⟨rfl, rfl⟩ ?_ ?_ | refine c_ncond ⟨rfl, rfl⟩ ?_ ?_ | refine l_split rfl rfl ?_ ?_ | refine q_split rfl rfl ?_ ?_ | refine l_nsplit rfl rfl ?_ ?_ | refine q_nsplit rfl rfl ?_ ?_) <;> intro _ <;> try (exfalso; omega)) | (refine l_st (k_call1 evs_auto H ca_Lu2 rfl ?_); clear H; intro _ _ H) | (refine l_st (k_callg1 evs_auto rfl rfl rfl H ca_Lu2 rfl ?_); clear H; intro _ _ H) | refine kq_call1 evs_auto H (fun _ H => ca_Lu2) rfl ?_ | refine kq_callg1 evs_auto rfl rfl rfl H (fun _ H => ca_Lu2) rfl ?_)
  exact ret1 H rfl rfl rfl rfl
theorem contents_len {p q : Pt} {n t : Int} {pos : List Int} : (cycSp p q n t pos).1.writes.length ≤ 4096 * 9 := by
  by_cases h1 : (betwSp p q).2 ≠ 0
  · unfold cycSp; rw [if_pos h1]; simp [cyc0]
  · by_cases h2 : n ≤ (anc p.lin q.lin).1 ∨ n < lastTo q.lin
    · unfold cycSp; rw [if_neg h1, if_pos h2]; simp [cyc0]
    · have hok := betwOk (p := p) (q := q) (by omega)
      obtain ⟨l1, l2, l3, l4, l5⟩ := hok.len
      have hc := contUpto_len q.im (betwSp p q).1 (fun x hx => by
        have hx' : x ∈ betw p q := by rw [hok.eq] at hx; exact hx
        obtain ⟨j, hj, rfl⟩ := List.mem_iff_getElem.1 hx'
        exact (hok.at_ (by omega) hj).2.1) (betwSp p q).1.length
      have hl : (betwSp p q).1.length = q.im.length := by rw [hok.eq]; exact l2
      unfold cycSp; rw [if_neg h1, if_neg h2]
      simp only
      split
      · simp [cyc0]
      · simp only [contents]; omega
theorem cycSp_pos {p q : Pt} {n t : Int} {pos : List Int} (h : pos.length ≤ 1000000) : (cycSp p q n t pos).1.pos.length ≤ 1000000 := by
  by_cases h1 : (betwSp p q).2 ≠ 0
  · unfold cycSp; rw [if_pos h1]; simp [cyc0]
  · by_cases h2 : n ≤ (anc p.lin q.lin).1 ∨ n < lastTo q.lin
    · unfold cycSp; rw [if_neg h1, if_pos h2]; simp [cyc0]
    · unfold cycSp; rw [if_neg h1, if_neg h2]
      simp only
      split
      · simp [cyc0]
      · exact h
section
variable (M : Nat → Prop) (w : World) (hM : ∀ b, M b → b < w.heap.size) (p q : Pt) (A1 A2 A3 B1 B2 B3 Ap : Option Addr) (c1 c2 c3 d1 d2 d3 cp : Nat) (number time : Int) (pos : List Int) (hs : rng .i64 p.site) (hs' : rng .i64 q.site)
  (h1 : Stab w M (Row kSpan 3 A1 p.lin)) (h2 : Stab w M (Row kBm 2 A2 p.dirty)) (h3 : Stab w M (Row kVol 1 A3 p.im)) (k1 : Stab w M (Row kSpan 3 B1 q.lin)) (k2 : Stab w M (Row kBm 2 B2 q.dirty)) (k3 : Stab w M (Row kVol 1 B3 q.im)) (hp : Stab w M (Row (kInt .i64) 1 Ap pos)) (hT : Stab w M TabF)
include hM hs hs' h1 h2 h3 k1 k2 k3 hp hT
theorem cycles_any :
    Ret Tryd.prog 4 [.agg [.int .i64 p.site, .slice A1 p.lin.length c1, .slice A2 p.dirty.length c2, .slice A3 p.im.length c3].toArray, .agg [.int .i64 q.site, .slice B1 q.lin.length d1, .slice B2 q.dirty.length d2, .slice B3 q.im.length d3].toArray, .agg [.int .i64 number, .int .i64 time, .slice Ap pos.length cp].toArray] w fun v _ => v = .bool true := by
  refine enter (M := M) (F := [Row kSpan 3 A1 p.lin, Row kBm 2 A2 p.dirty, Row kVol 1 A3 p.im, Row kSpan 3 B1 q.lin, Row kBm 2 B2 q.dirty, Row kVol 1 B3 q.im, Row (kInt .i64) 1 Ap pos, TabF]) Tryd.func4 rfl rfl rfl (by simpa using ⟨h1, h2, h3, k1, k2, k3, hp, hT⟩) fun H => ?_
  repeat' (first | (apply l_rd; exact rd_go; rfl) | (apply q_rd; exact rd_go; rfl) | refine stp ?_ | refine bk_o rfl ?_ | refine c_true ⟨rfl, rfl⟩ ?_ | refine c_false ⟨rfl, rfl⟩ ?_ | (apply l_rdg; rfl; rfl; rfl; exact rd_go; rfl) | refine l_skip rfl rfl rfl rfl ?_ | (apply q_rdg; rfl; rfl; rfl; exact rd_go; rfl) | refine q_skip rfl rfl rfl rfl ?_ | refine c_draw H (by kernel_rfl) ?_ | (refine q_end ?_; clear H; intro _ H) | ((first | refine l_st (z_box H ?_) | refine l_st (s_alloc H rfl ?_)); clear H; intro _ _ _ H) | (refine l_st (t_build0 H rfl ?_); clear H; intro _ _ _ _ H) | (refine l_st (z_sto H ?_); clear H; intro _ H) | ((first | refine c_cond ⟨rfl, rfl⟩ ?_ ?_ | refine c_ncond ⟨rfl, rfl⟩ ?_ ?_ | refine l_split rfl rfl ?_ ?_ | refine q_split rfl rfl ?_ ?_ | refine l_nsplit rfl rfl ?_ ?_ | refine q_nsplit rfl rfl ?_ ?_) <;> intro _ <;> try (exfalso; omega)) | (refine l_st (k_call1 evs_auto H ca_Lu2 rfl ?_); clear H; intro _ _ H) | (refine l_st (k_callg1 evs_auto rfl rfl rfl H ca_Lu2 rfl ?_); clear H; intro _ _ H) | refine kq_call1 evs_auto H (fun _ H => ca_Lu2) rfl ?_ | refine kq_callg1 evs_auto rfl rfl rfl H (fun _ H => ca_Lu2) rfl ?_)
  · exact ret1 H rfl rfl rfl rfl
  · exact ret1 H rfl rfl rfl rfl
  · exact ret1 H rfl rfl rfl rfl
  have hfp : fewPt p := by assumption
  have hfq : fewPt q := by assumption
  obtain ⟨p1, p2⟩ := fewPt_len hfp
  obtain ⟨q1, q2⟩ := fewPt_len hfq
  have hpl : pos.length ≤ 1000000 := by omega
  have hcl := contents_len (p := p) (q := q) (n := number) (t := time) (pos := pos)
  have hcp := cycSp_pos (p := p) (q := q) (n := number) (t := time) hpl
  refine l_st (k_call evs_auto H (cycle_any H.mu _ (H.mu_lt hM) p q A1 A2 A3 B1 B2 B3 Ap c1 c2 c3 d1 d2 d3 cp hs p1 p2 hs' q1 q2 number time pos hpl (H.fact _ mem_auto) (H.fact _ mem_auto) (H.fact _ mem_auto) (H.fact _ mem_auto) (H.fact _ mem_auto) (H.fact _ mem_auto) (H.fact _ mem_auto) (H.fact _ mem_auto)) rfl ?_)
  rintro _ w1 ⟨v1, v2, rfl, hf1, hf2⟩ hb H1
  obtain ⟨A10, cA10, hv1, _, _, hr1⟩ := hf1.row (H.mu_lt hM) Nat.zero_lt_one (by omega)
  obtain ⟨A11, cA11, hv2, _, _, hr2⟩ := hf2.row (H.mu_lt hM) (by decide) (by omega)
  subst hv1; subst hv2
  have H2 := ((H1.add hr1).add hr2).add (H1.fact TabF mem_auto)
  clear hf1 hf2 hr1 hr2 H H1; have H := H2; clear H2
  repeat' (first | (apply l_rd; exact rd_go; rfl) | (apply q_rd; exact rd_go; rfl) | refine stp ?_ | refine bk_o rfl ?_ | refine c_true ⟨rfl, rfl⟩ ?_ | refine c_false ⟨rfl, rfl⟩ ?_ | (apply l_rdg; rfl; rfl; rfl; exact rd_go; rfl) | refine l_skip rfl rfl rfl rfl ?_ | (apply q_rdg; rfl; rfl; rfl; exact rd_go; rfl) | refine q_skip rfl rfl rfl rfl ?_ | refine c_draw H (by kernel_rfl) ?_ | (refine q_end ?_; clear H; intro _ H) | ((first | refine l_st (z_box H ?_) | refine l_st (s_alloc H rfl ?_)); clear H; intro _ _ _ H) | (refine l_st (t_build0 H rfl ?_); clear H; intro _ _ _ _ H) | (refine l_st (z_sto H ?_); clear H; intro _ H) | ((first | refine c_cond ⟨rfl, rfl⟩ ?_ ?_ | refine c_ncond ⟨rfl, rfl⟩ ?_ ?_ | refine l_split rfl rfl ?_ ?_ | refine q_split rfl rfl ?_ ?_ | refine l_nsplit rfl rfl ?_ ?_ | refine q_nsplit rfl rfl ?_ ?_) <;> intro _ <;> try (exfalso; omega)) | (refine l_st (k_call1 evs_auto H ca_Lu2 rfl ?_); clear H; intro _ _ H) | (refine l_st (k_callg1 evs_auto rfl rfl rfl H ca_Lu2 rfl ?_); clear H; intro _ _ H) | refine kq_call1 evs_auto H (fun _ H => ca_Lu2) rfl ?_ | refine kq_callg1 evs_auto rfl rfl rfl H (fun _ H => ca_Lu2) rfl ?_)
  refine l_st (k_call evs_auto H (rCycle_any H.mu _ (H.mu_lt hM) p q A1 A2 A3 B1 B2 B3 Ap c1 c2 c3 d1 d2 d3 cp hs p1 p2 hs' q1 q2 number time pos hpl (H.fact _ mem_auto) (H.fact _ mem_auto) (H.fact _ mem_auto) (H.fact _ mem_auto) (H.fact _ mem_auto) (H.fact _ mem_auto) (H.fact _ mem_auto)) rfl ?_)
  rintro _ w2 ⟨v1, v2, rfl, hf1, hf2⟩ hb H1
  obtain ⟨A12, cA12, hv1, _, _, hr1⟩ := hf1.row (H.mu_lt hM) Nat.zero_lt_one (by omega)
  obtain ⟨A13, cA13, hv2, _, _, hr2⟩ := hf2.row (H.mu_lt hM) (by decide) (by omega)
  subst hv1; subst hv2
  have H2 := ((H1.add hr1).add hr2).add (H1.fact TabF mem_auto)
  clear hf1 hf2 hr1 hr2 H H1; have H := H2; clear H2
  repeat' (first | (apply l_rd; exact rd_go; rfl) | (apply q_rd; exact rd_go; rfl) | refine stp ?_ | refine bk_o rfl ?_ | refine c_true ⟨rfl, rfl⟩ ?_ | refine c_false ⟨rfl, rfl⟩ ?_ | (apply l_rdg; rfl; rfl; rfl; exact rd_go; rfl) | refine l_skip rfl rfl rfl rfl ?_ | (apply q_rdg; rfl; rfl; rfl; exact rd_go; rfl) | refine q_skip rfl rfl rfl rfl ?_ | refine c_draw H (by kernel_rfl) ?_ | (refine q_end ?_; clear H; intro _ H) | ((first | refine l_st (z_box H ?_) | refine l_st (s_alloc H rfl ?_)); clear H; intro _ _ _ H) | (refine l_st (t_build0 H rfl ?_); clear H; intro _ _ _ _ H) | (refine l_st (z_sto H ?_); clear H; intro _ H) | ((first | refine c_cond ⟨rfl, rfl⟩ ?_ ?_ | refine c_ncond ⟨rfl, rfl⟩ ?_ ?_ | refine l_split rfl rfl ?_ ?_ | refine q_split rfl rfl ?_ ?_ | refine l_nsplit rfl rfl ?_ ?_ | refine q_nsplit rfl rfl ?_ ?_) <;> intro _ <;> try (exfalso; omega)) | (refine l_st (k_call1 evs_auto H ca_Lu2 rfl ?_); clear H; intro _ _ H) | (refine l_st (k_callg1 evs_auto rfl rfl rfl H ca_Lu2 rfl ?_); clear H; intro _ _ H) | refine kq_call1 evs_auto H (fun _ H => ca_Lu2) rfl ?_ | refine kq_callg1 evs_auto rfl rfl rfl H (fun _ H => ca_Lu2) rfl ?_)
  have hsame := rSameCyc_any _ (cycSp p q number time pos).1 A10 A11 A12 A13 cA10 cA11 cA12 cA13 _ (H.fact _ mem_auto) (H.fact _ mem_auto) (H.fact _ mem_auto) (H.fact _ mem_auto)
  refine l_st (k_callg1 evs_auto rfl rfl rfl H hsame rfl ?_)
  clear H hsame; intro _ _ H
  repeat' (first | (apply l_rd; exact rd_go; rfl) | (apply q_rd; exact rd_go; rfl) | refine stp ?_ | refine bk_o rfl ?_ | refine c_true ⟨rfl, rfl⟩ ?_ | refine c_false ⟨rfl, rfl⟩ ?_ | (apply l_rdg; rfl; rfl; rfl; exact rd_go; rfl) | refine l_skip rfl rfl rfl rfl ?_ | (apply q_rdg; rfl; rfl; rfl; exact rd_go; rfl) | refine q_skip rfl rfl rfl rfl ?_ | refine c_draw H (by kernel_rfl) ?_ | (refine q_end ?_; clear H; intro _ H) | ((first | refine l_st (z_box H ?_) | refine l_st (s_alloc H rfl ?_)); clear H; intro _ _ _ H) | (refine l_st (t_build0 H rfl ?_); clear H; intro _ _ _ _ H) | (refine l_st (z_sto H ?_); clear H; intro _ H) | ((first | refine c_cond ⟨rfl, rfl⟩ ?_ ?_ | refine c_ncond ⟨rfl, rfl⟩ ?_ ?_ | refine l_split rfl rfl ?_ ?_ | refine q_split rfl rfl ?_ ?_ | refine l_nsplit rfl rfl ?_ ?_ | refine q_nsplit rfl rfl ?_ ?_) <;> intro _ <;> try (exfalso; omega)) | (refine l_st (k_call1 evs_auto H ca_Lu2 rfl ?_); clear H; intro _ _ H) | (refine l_st (k_callg1 evs_auto rfl rfl rfl H ca_Lu2 rfl ?_); clear H; intro _ _ H) | refine kq_call1 evs_auto H (fun _ H => ca_Lu2) rfl ?_ | refine kq_callg1 evs_auto rfl rfl rfl H (fun _ H => ca_Lu2) rfl ?_)
  exact ret1 H rfl rfl rfl (bv (decide_eq_true rfl))
end
end Go.Proofs.YtiolpldihoghiaaDoor
