/- The reference's Apply: the contract. The reference's Clean and Mark: the contracts. The reference's Mark: the contract. The statement's one and point: the contracts. The engine, part 25: arrays of whole numbers are compared. Over any program. Sectors are compared. coalesce.Check, cycle.Check and their references: the contracts. coalesce.Check, cycle.Check and their references: the contracts. cycle.Check and its reference: the contracts. cycle.Check and its reference: the contracts. -/
import Derived.Test.YtiolpldihoghiaaDoorC8
import Derived.ChangeKeysEq
namespace Go.Proofs.YtiolpldihoghiaaDoor
open Go.RowKit
set_option linter.unusedVariables false
set_option linter.unusedSimpArgs false
set_option maxHeartbeats 8000000
theorem ca_Ap2 {k : FuncId} {vs : List Value} {w1 : World} {v : Value} (h : Ret Tryd.prog k vs w1 (fun u _ => u = v) := by first | exact rImCheck_any _ _ _ _ _ (by omega) (H.fact _ mem_auto) | exact rFitsIm_any _ _ _ _ _ _ _ _ (by assumption) (by assumption) (by omega) (by omega) (H.fact _ mem_auto)) : Ret Tryd.prog k vs w1 (fun u _ => u = v) := h
/-- An image and two numbers are handed back. -/
def ApRet (w : World) (r : List (List Sec) × Int × Int) (v : Value) (w' : World) : Prop :=
  ∃ v1, v = .tuple #[v1, .int .i64 r.2.1, .int .i64 r.2.2] ∧ FreshG gSec 61 71 8 w r.1 v1 w'
theorem ap_bad {w w' : World} {r : List (List Sec) × Int × Int} {i e : Int} (h : r = ([], i, e)) : ApRet w r (.tuple #[.slice none 0 0, .int .i64 i, .int .i64 e]) w' := by
  subst h; exact ⟨_, rfl, freshG_nil⟩
theorem rApply_any (M : Nat → Prop) (im : List (List Sec)) (l : List Wr) (A B : Option Addr) (c d : Nat) (w : World) (hl : im.length ≤ 1000000) (hF : Stab w M (Row kVol 1 A im)) (hF' : Stab w M (Row kWr 3 B l)) :
    Ret Tryd.prog 89 [.slice A im.length c, .slice B l.length d] w (ApRet w (applySp im l)) := by
  have hok := im_ok hF
  have hll := hF'.now.len
  refine enter (M := M) (F := [Row kVol 1 A im, Row kWr 3 B l]) Tryd.func89 rfl rfl rfl (by simpa using ⟨hF, hF'⟩) fun H => ?_
  repeat' (first | (apply l_rd; exact rd_go; rfl) | (apply q_rd; exact rd_go; rfl) | refine stp ?_ | refine bk_o rfl ?_ | refine c_true ⟨rfl, rfl⟩ ?_ | refine c_false ⟨rfl, rfl⟩ ?_ | (apply l_rdg; rfl; rfl; rfl; exact rd_go; rfl) | refine l_skip rfl rfl rfl rfl ?_ | (apply q_rdg; rfl; rfl; rfl; exact rd_go; rfl) | refine q_skip rfl rfl rfl rfl ?_ | (refine q_end ?_; clear H; intro _ H) | ((first | refine l_st (z_box H ?_) | refine l_st (s_alloc H rfl ?_)); clear H; intro _ _ _ H) | (refine l_st (t_build0 H rfl ?_); clear H; intro _ _ _ _ H) | (refine l_st (z_sto H ?_); clear H; intro _ H) | ((first | refine c_cond ⟨rfl, rfl⟩ ?_ ?_ | refine c_ncond ⟨rfl, rfl⟩ ?_ ?_ | refine l_split rfl rfl ?_ ?_ | refine q_split rfl rfl ?_ ?_ | refine l_nsplit rfl rfl ?_ ?_ | refine q_nsplit rfl rfl ?_ ?_) <;> intro _ <;> try (exfalso; omega)) | (refine l_st (k_call1 evs_auto H ca_Ap2 rfl ?_); clear H; intro _ _ H) | (refine l_st (k_callg1 evs_auto rfl rfl rfl H ca_Ap2 rfl ?_); clear H; intro _ _ H) | refine kq_call1 evs_auto H (fun _ H => ca_Ap2) rfl ?_ | refine kq_callg1 evs_auto rfl rfl rfl H (fun _ H => ca_Ap2) rfl ?_)
  · have hbad : imErr im ≠ 0 := by assumption
    exact ret3 H rfl rfl rfl rfl rfl (ap_bad (by unfold applySp; rw [if_pos hbad]))
  have hz : imErr im = 0 := by omega
  obtain ⟨z1, z2, z3⟩ := sizesErr_zero hz
  have hsl := sizesOf_len im
  have hvl : ∀ x ∈ im, x.length ≤ 4096 := fun x hx => by
    have := z3 (x.length : Int) (List.mem_map.2 ⟨x, hx, rfl⟩); omega
  refine l_st (k_call evs_auto H (rCopyIm_any _ im A c _ (by omega) (fun x hx => by have := hvl x hx; omega) (H.fact _ mem_auto)) rfl ?_)
  intro v1 w1 hf1 hb1 _
  obtain ⟨A8, c8, cs, rfl, hcs, H1⟩ := H.takeG hb1 hf1
  clear H hf1; have H := H1; clear H1
  repeat' (first | (apply l_rd; exact rd_go; rfl) | (apply q_rd; exact rd_go; rfl) | refine stp ?_ | refine bk_o rfl ?_ | refine c_true ⟨rfl, rfl⟩ ?_ | refine c_false ⟨rfl, rfl⟩ ?_ | (apply l_rdg; rfl; rfl; rfl; exact rd_go; rfl) | refine l_skip rfl rfl rfl rfl ?_ | (apply q_rdg; rfl; rfl; rfl; exact rd_go; rfl) | refine q_skip rfl rfl rfl rfl ?_ | (refine q_end ?_; clear H; intro _ H) | ((first | refine l_st (z_box H ?_) | refine l_st (s_alloc H rfl ?_)); clear H; intro _ _ _ H) | (refine l_st (t_build0 H rfl ?_); clear H; intro _ _ _ _ H) | (refine l_st (z_sto H ?_); clear H; intro _ H) | ((first | refine c_cond ⟨rfl, rfl⟩ ?_ ?_ | refine c_ncond ⟨rfl, rfl⟩ ?_ ?_ | refine l_split rfl rfl ?_ ?_ | refine q_split rfl rfl ?_ ?_ | refine l_nsplit rfl rfl ?_ ?_ | refine q_nsplit rfl rfl ?_ ?_) <;> intro _ <;> try (exfalso; omega)) | (refine l_st (k_call1 evs_auto H ca_Ap2 rfl ?_); clear H; intro _ _ H) | (refine l_st (k_callg1 evs_auto rfl rfl rfl H ca_Ap2 rfl ?_); clear H; intro _ _ H) | refine kq_call1 evs_auto H (fun _ H => ca_Ap2) rfl ?_ | refine kq_callg1 evs_auto rfl rfl rfl H (fun _ H => ca_Ap2) rfl ?_)
  have hsp : applySp im l = applyGo (sizesOf im) im ((0 : Nat) : Int) (l.drop 0) := by unfold applySp; rw [if_neg (by omega)]; rfl
  rw [hsp]
  clear hsp
  refine c_loopk [9] [0, 1, 8] (fun n vs w' => ∃ (i : Nat) (out : List (List Sec)), vs = [.int .i64 i] ∧ i ≤ l.length ∧ n = l.length - i ∧ sizesOf out = sizesOf im ∧ out.length = im.length ∧ ImOk out ∧
      applyGo (sizesOf im) im ((0 : Nat) : Int) (l.drop 0) = applyGo (sizesOf im) out (i : Int) (l.drop i) ∧
      Hp w M w' [] (⟨.slice A8 im.length c8, 61, 1, im.length, cs⟩ :: (inn gSec 71 8 cs out ++ [])) [Row kVol 1 A im, Row kWr 3 B l]) _ [_, _, _] rfl
      ⟨0, im, rfl, Nat.zero_le _, rfl, rfl, rfl, hok, rfl, H⟩ ?_
  clear H
  rintro n _ E0 w2 ⟨i, out, rfl, hi, rfl, hos, hol, hook, hgo, H⟩
  rw [hgo]
  clear hgo
  by_cases hi' : i < l.length
  · obtain ⟨A5, c5, r1, r2, q1, q2, H1⟩ := H.openWr (A := B) (xs := l) (i := i) mem_auto hi'
    clear H; have H := H1; clear H1
    have hdl := (H.fact (Row kSec 8 A5 l[i].data) mem_auto).now.len
    have hdok := sec_ok (H.fact (Row kSec 8 A5 l[i].data) mem_auto)
    repeat' (first | (apply l_rd; exact rd_go; rfl) | (apply q_rd; exact rd_go; rfl) | refine stp ?_ | refine bk_o rfl ?_ | refine c_true ⟨rfl, rfl⟩ ?_ | refine c_false ⟨rfl, rfl⟩ ?_ | (apply l_rdg; rfl; rfl; rfl; exact rd_go; rfl) | refine l_skip rfl rfl rfl rfl ?_ | (apply q_rdg; rfl; rfl; rfl; exact rd_go; rfl) | refine q_skip rfl rfl rfl rfl ?_ | (refine q_end ?_; clear H; intro _ H) | ((first | refine l_st (z_box H ?_) | refine l_st (s_alloc H rfl ?_)); clear H; intro _ _ _ H) | (refine l_st (t_build0 H rfl ?_); clear H; intro _ _ _ _ H) | (refine l_st (z_sto H ?_); clear H; intro _ H) | ((first | refine c_cond ⟨rfl, rfl⟩ ?_ ?_ | refine c_ncond ⟨rfl, rfl⟩ ?_ ?_ | refine l_split rfl rfl ?_ ?_ | refine q_split rfl rfl ?_ ?_ | refine l_nsplit rfl rfl ?_ ?_ | refine q_nsplit rfl rfl ?_ ?_) <;> intro _ <;> try (exfalso; omega)) | (refine l_st (k_call1 evs_auto H ca_Ap2 rfl ?_); clear H; intro _ _ H) | (refine l_st (k_callg1 evs_auto rfl rfl rfl H ca_Ap2 rfl ?_); clear H; intro _ _ H) | refine kq_call1 evs_auto H (fun _ H => ca_Ap2) rfl ?_ | refine kq_callg1 evs_auto rfl rfl rfl H (fun _ H => ca_Ap2) rfl ?_)
    · have hbad : ¬ (if imErr im ≠ 0 then imErr im else fitsErr (sizesOf im) l[i]) = 0 := by assumption
      rw [if_neg (by omega)] at hbad
      exact ret3 H rfl rfl rfl rfl rfl (ap_bad (by rw [applyGo_bad hi' hbad, if_neg (by omega)]))
    have hgood : ¬ ¬ (if imErr im ≠ 0 then imErr im else fitsErr (sizesOf im) l[i]) = 0 := by assumption
    rw [if_neg (by omega)] at hgood
    rw [applyGo_good hi' hgood]
    rw [← hos] at hgood
    obtain ⟨v1, v2, hv, v3⟩ := fits_at_vol hgood
    have hpw := putW_at (x := l[i]) hv
    have hsz := putW_sizes hgood
    have hpok := putW_ok (x := l[i]) hook hdok
    have hpl := putW_len out l[i]
    have hcv : (l[i].vol.toNat) < cs.length := by omega
    have hg := inn_get (f := gSec) (e := 71) (sz := 8) (List.getElem?_eq_getElem hcv) (List.getElem?_eq_getElem hv)
    have hbv : out[l[i].vol.toNat].length ≤ 4096 := by
      have h1 : sizesOf out = sizesOf im := hos
      have h2 : ((out[l[i].vol.toNat].length : Int)) ∈ sizesOf im := by rw [← h1]; exact List.mem_map.2 ⟨_, List.getElem_mem hv, rfl⟩
      have := z3 _ h2; omega
    have H1 := H.perm (inn_out (List.getElem?_eq_getElem hcv) (List.getElem?_eq_getElem hv))
    obtain ⟨Av, cv, hcv1, hcv2, hcv3⟩ := own_sl (j := 0) H1 rfl
    have hcx : cs[l[i].vol.toNat * 1 + 0]? = some (.slice Av out[l[i].vol.toNat].length cv) := by rw [Nat.mul_one, Nat.add_zero, List.getElem?_eq_getElem hcv, hcv1]
    rw [hcv1] at H1
    clear H hg; have H := H1; clear H1
    have hins := fun (l' : List Sec) => inn_in (f := gSec) (e := 71) (sz := 8) (cs := cs) (im := out) (i := l[i].vol.toNat) (q := cs[l[i].vol.toNat]) (l := l') (o := ⟨.slice A8 im.length c8, 61, 1, im.length, cs⟩) (O1 := []) (List.getElem?_eq_getElem hcv) hv
    rw [hcv1] at hins
    generalize hbase : out[l[i].vol.toNat] = base at *
    generalize hrest : (inn gSec 71 8 cs out).eraseIdx l[i].vol.toNat ++ [] = O1 at *
    refine c_loopk [11] [0, 1, 8, 9] (fun n vs w' => ∃ (k : Nat), vs = [.int .i64 k] ∧ k ≤ l[i].data.length ∧ n = l[i].data.length - k ∧
        Hp w M w' [] (⟨.slice Av base.length cv, 71, 8, base.length, (putTo base l[i].start.toNat (l[i].data.take k)).flatMap gSec⟩ :: ⟨.slice A8 im.length c8, 61, 1, im.length, cs⟩ :: O1)
          [Row kSec 8 A5 l[i].data, Cel B i 3 [.int .i64 l[i].vol, .int .i64 l[i].start, .slice A5 l[i].data.length c5], Row kVol 1 A im, Row kWr 3 B l]) _ [_, _, _, _] rfl
        ⟨0, rfl, Nat.zero_le _, rfl, by rw [List.take_zero, putTo_nil]; exact H⟩ ?_
    clear H
    rintro n _ E1 w3 ⟨k, rfl, hk, rfl, H⟩
    by_cases hk' : k < l[i].data.length
    · repeat' (first | (apply l_rd; exact rd_go; rfl) | (apply q_rd; exact rd_go; rfl) | refine stp ?_ | refine bk_o rfl ?_ | refine c_true ⟨rfl, rfl⟩ ?_ | refine c_false ⟨rfl, rfl⟩ ?_ | (apply l_rdg; rfl; rfl; rfl; exact rd_go; rfl) | refine l_skip rfl rfl rfl rfl ?_ | (apply q_rdg; rfl; rfl; rfl; exact rd_go; rfl) | refine q_skip rfl rfl rfl rfl ?_ | (refine q_end ?_; clear H; intro _ H) | ((first | refine l_st (z_box H ?_) | refine l_st (s_alloc H rfl ?_)); clear H; intro _ _ _ H) | (refine l_st (t_build0 H rfl ?_); clear H; intro _ _ _ _ H) | (refine l_st (z_sto H ?_); clear H; intro _ H) | ((first | refine c_cond ⟨rfl, rfl⟩ ?_ ?_ | refine c_ncond ⟨rfl, rfl⟩ ?_ ?_ | refine l_split rfl rfl ?_ ?_ | refine q_split rfl rfl ?_ ?_ | refine l_nsplit rfl rfl ?_ ?_ | refine q_nsplit rfl rfl ?_ ?_) <;> intro _ <;> try (exfalso; omega)) | (refine l_st (k_call1 evs_auto H ca_Ap2 rfl ?_); clear H; intro _ _ H) | (refine l_st (k_callg1 evs_auto rfl rfl rfl H ca_Ap2 rfl ?_); clear H; intro _ _ H) | refine kq_call1 evs_auto H (fun _ H => ca_Ap2) rfl ?_ | refine kq_callg1 evs_auto rfl rfl rfl H (fun _ H => ca_Ap2) rfl ?_)
      refine c_mix H [24] ?_
      clear H; intro w4 H
      (apply m_rd2 (i := 0) rfl (by decide +kernel) (by first | exact Below.refl _ _ | assumption); exact rd_go; rfl); (apply m_rd2 (i := 1) rfl (by decide +kernel) (by first | exact Below.refl _ _ | assumption); exact rd_go; rfl); (apply m_rd2 (i := 2) rfl (by decide +kernel) (by first | exact Below.refl _ _ | assumption); exact rd_go; rfl); (apply m_rd2 (i := 3) rfl (by decide +kernel) (by first | exact Below.refl _ _ | assumption); exact rd_go; rfl); (apply m_rd2 (i := 4) rfl (by decide +kernel) (by first | exact Below.refl _ _ | assumption); exact rd_go; rfl); (apply m_rd2 (i := 5) rfl (by decide +kernel) (by first | exact Below.refl _ _ | assumption); exact rd_go; rfl)
      apply m_rd2 (i := 6) rfl (by decide +kernel) (by first | exact Below.refl _ _ | assumption)
      exact rd_index_own (j := 1) (m := l[i].vol.toNat) (v := .slice _ _ _) H rfl ⟨rfl, rfl⟩ ⟨rfl, rfl⟩ (by omega) (by omega)
      rfl
      apply m_rd2 (i := 7) rfl (by decide +kernel) (by first | exact Below.refl _ _ | assumption)
      exact rd_load_op (j := 1) H ⟨rfl, rfl⟩ rfl (by omega) hcx
      rfl
      (apply m_rd2 (i := 8) rfl (by decide +kernel) (by first | exact Below.refl _ _ | assumption); exact rd_go; rfl); (apply m_rd2 (i := 9) rfl (by decide +kernel) (by first | exact Below.refl _ _ | assumption); exact rd_go; rfl); (apply m_rd2 (i := 10) rfl (by decide +kernel) (by first | exact Below.refl _ _ | assumption); exact rd_go; rfl); (apply m_rd2 (i := 11) rfl (by decide +kernel) (by first | exact Below.refl _ _ | assumption); exact rd_go; rfl); (apply m_rd2 (i := 12) rfl (by decide +kernel) (by first | exact Below.refl _ _ | assumption); exact rd_go; rfl); (apply m_rd2 (i := 13) rfl (by decide +kernel) (by first | exact Below.refl _ _ | assumption); exact rd_go; rfl); (apply m_rd2 (i := 14) rfl (by decide +kernel) (by first | exact Below.refl _ _ | assumption); exact rd_go; rfl); (apply m_rd2 (i := 15) rfl (by decide +kernel) (by first | exact Below.refl _ _ | assumption); exact rd_go; rfl); (apply m_rd2 (i := 16) rfl (by decide +kernel) (by first | exact Below.refl _ _ | assumption); exact rd_go; rfl); (apply m_rd2 (i := 17) rfl (by decide +kernel) (by first | exact Below.refl _ _ | assumption); exact rd_go; rfl); (apply m_rd2 (i := 18) rfl (by decide +kernel) (by first | exact Below.refl _ _ | assumption); exact rd_go; rfl); (apply m_rd2 (i := 19) rfl (by decide +kernel) (by first | exact Below.refl _ _ | assumption); exact rd_go; rfl); (apply m_rd2 (i := 20) rfl (by decide +kernel) (by first | exact Below.refl _ _ | assumption); exact rd_go; rfl); (apply m_rd2 (i := 21) rfl (by decide +kernel) (by first | exact Below.refl _ _ | assumption); exact rd_go; rfl); (apply m_rd2 (i := 22) rfl (by decide +kernel) (by first | exact Below.refl _ _ | assumption); exact rd_go; rfl)
      apply m_rd2 (i := 23) rfl (by decide +kernel) (by first | exact Below.refl _ _ | assumption)
      exact rd_index_own (j := 0) (m := l[i].start.toNat + k) (v := .slice _ _ _) H rfl ⟨rfl, rfl⟩ ⟨rfl, rfl⟩ (by omega) (by omega)
      rfl
      have hsk := hdok _ (List.getElem_mem hk')
      refine m_one (i := 24) (by kernel_rfl) rfl (t_storea_flat (j := 0) (f := gSec) l[i].data[k] H rfl ⟨rfl, rfl⟩ (by rw [gSec_eq hsk.1]; exact ⟨rfl, rfl⟩) gSec_len (putTo_len (by rw [List.length_take]; omega)).symm (by omega) (gSec_one _) ?_)
      intro w5 H5
      refine ⟨fun h => (by cases h), m_end (by kernel_rfl) ?_⟩
      clear H; have H := H5; clear H5
      rw [putTo_step hk' v3] at H
      repeat' (first | (apply l_rd; exact rd_go; rfl) | (apply q_rd; exact rd_go; rfl) | refine stp ?_ | refine bk_o rfl ?_ | refine c_true ⟨rfl, rfl⟩ ?_ | refine c_false ⟨rfl, rfl⟩ ?_ | (apply l_rdg; rfl; rfl; rfl; exact rd_go; rfl) | refine l_skip rfl rfl rfl rfl ?_ | (apply q_rdg; rfl; rfl; rfl; exact rd_go; rfl) | refine q_skip rfl rfl rfl rfl ?_ | (refine q_end ?_; clear H; intro _ H) | ((first | refine l_st (z_box H ?_) | refine l_st (s_alloc H rfl ?_)); clear H; intro _ _ _ H) | (refine l_st (t_build0 H rfl ?_); clear H; intro _ _ _ _ H) | (refine l_st (z_sto H ?_); clear H; intro _ H) | ((first | refine c_cond ⟨rfl, rfl⟩ ?_ ?_ | refine c_ncond ⟨rfl, rfl⟩ ?_ ?_ | refine l_split rfl rfl ?_ ?_ | refine q_split rfl rfl ?_ ?_ | refine l_nsplit rfl rfl ?_ ?_ | refine q_nsplit rfl rfl ?_ ?_) <;> intro _ <;> try (exfalso; omega)) | (refine l_st (k_call1 evs_auto H ca_Ap2 rfl ?_); clear H; intro _ _ H) | (refine l_st (k_callg1 evs_auto rfl rfl rfl H ca_Ap2 rfl ?_); clear H; intro _ _ H) | refine kq_call1 evs_auto H (fun _ H => ca_Ap2) rfl ?_ | refine kq_callg1 evs_auto rfl rfl rfl H (fun _ H => ca_Ap2) rfl ?_)
      exact lk_n rfl (n' := l[i].data.length - (k + 1)) (by omega) ⟨k + 1, rfl, hk', rfl, H⟩
    · have hk2 : k = l[i].data.length := by omega
      repeat' (first | (apply l_rd; exact rd_go; rfl) | (apply q_rd; exact rd_go; rfl) | refine stp ?_ | refine bk_o rfl ?_ | refine c_true ⟨rfl, rfl⟩ ?_ | refine c_false ⟨rfl, rfl⟩ ?_ | (apply l_rdg; rfl; rfl; rfl; exact rd_go; rfl) | refine l_skip rfl rfl rfl rfl ?_ | (apply q_rdg; rfl; rfl; rfl; exact rd_go; rfl) | refine q_skip rfl rfl rfl rfl ?_ | (refine q_end ?_; clear H; intro _ H) | ((first | refine l_st (z_box H ?_) | refine l_st (s_alloc H rfl ?_)); clear H; intro _ _ _ H) | (refine l_st (t_build0 H rfl ?_); clear H; intro _ _ _ _ H) | (refine l_st (z_sto H ?_); clear H; intro _ H) | ((first | refine c_cond ⟨rfl, rfl⟩ ?_ ?_ | refine c_ncond ⟨rfl, rfl⟩ ?_ ?_ | refine l_split rfl rfl ?_ ?_ | refine q_split rfl rfl ?_ ?_ | refine l_nsplit rfl rfl ?_ ?_ | refine q_nsplit rfl rfl ?_ ?_) <;> intro _ <;> try (exfalso; omega)) | (refine l_st (k_call1 evs_auto H ca_Ap2 rfl ?_); clear H; intro _ _ H) | (refine l_st (k_callg1 evs_auto rfl rfl rfl H ca_Ap2 rfl ?_); clear H; intro _ _ H) | refine kq_call1 evs_auto H (fun _ H => ca_Ap2) rfl ?_ | refine kq_callg1 evs_auto rfl rfl rfl H (fun _ H => ca_Ap2) rfl ?_)
      rw [hk2, List.take_length] at H
      have e1 : (putTo base l[i].start.toNat l[i].data).length = base.length := putTo_len v3
      have hp := hins (putTo base l[i].start.toNat l[i].data)
      rw [e1, ← hpw] at hp
      exact lk_n rfl (n' := l.length - (i + 1)) (by omega) ⟨i + 1, putW out l[i], rfl, hi', rfl, hsz.trans hos, hpl.trans hol, hpok, rfl, (H.perm hp).weak (List.Sublist.refl _) (List.Sublist.refl _) (by simp)⟩
  · have hi2 : i = l.length := by omega
    repeat' (first | (apply l_rd; exact rd_go; rfl) | (apply q_rd; exact rd_go; rfl) | refine stp ?_ | refine bk_o rfl ?_ | refine c_true ⟨rfl, rfl⟩ ?_ | refine c_false ⟨rfl, rfl⟩ ?_ | (apply l_rdg; rfl; rfl; rfl; exact rd_go; rfl) | refine l_skip rfl rfl rfl rfl ?_ | (apply q_rdg; rfl; rfl; rfl; exact rd_go; rfl) | refine q_skip rfl rfl rfl rfl ?_ | (refine q_end ?_; clear H; intro _ H) | ((first | refine l_st (z_box H ?_) | refine l_st (s_alloc H rfl ?_)); clear H; intro _ _ _ H) | (refine l_st (t_build0 H rfl ?_); clear H; intro _ _ _ _ H) | (refine l_st (z_sto H ?_); clear H; intro _ H) | ((first | refine c_cond ⟨rfl, rfl⟩ ?_ ?_ | refine c_ncond ⟨rfl, rfl⟩ ?_ ?_ | refine l_split rfl rfl ?_ ?_ | refine q_split rfl rfl ?_ ?_ | refine l_nsplit rfl rfl ?_ ?_ | refine q_nsplit rfl rfl ?_ ?_) <;> intro _ <;> try (exfalso; omega)) | (refine l_st (k_call1 evs_auto H ca_Ap2 rfl ?_); clear H; intro _ _ H) | (refine l_st (k_callg1 evs_auto rfl rfl rfl H ca_Ap2 rfl ?_); clear H; intro _ _ H) | refine kq_call1 evs_auto H (fun _ H => ca_Ap2) rfl ?_ | refine kq_callg1 evs_auto rfl rfl rfl H (fun _ H => ca_Ap2) rfl ?_)
    rw [applyGo_end (by omega)]
    exact ret3 H rfl rfl rfl rfl rfl ⟨_, rfl, H.freshG (O1 := []) (by rw [hol]; rfl) rfl (hcs.trans hol.symm)⟩
end Go.Proofs.YtiolpldihoghiaaDoor

namespace Go.Proofs.YtiolpldihoghiaaDoor
open Go.RowKit
set_option linter.unusedVariables false
set_option linter.unusedSimpArgs false
set_option maxHeartbeats 8000000
def cleanBm (l : List Int) : List Bm := l.map fun n => (newBm n).1
def markW (out : List Bm) (x : Wr) : List Bm := out.set x.vol.toNat (setBm ((out[x.vol.toNat]?).getD noBm) ⟨x.start, x.data.length⟩).1
def markAll (l : List Bm) (ws : List Wr) : List Bm := ws.foldl markW l
theorem newBm_rng {n : Int} (h : rng .i64 n) : rng .i64 (newBm n).1.size ∧ (newBm n).1.words.length ≤ 100000 := by
  unfold newBm
  split
  · rename_i h1; exact ⟨h, by rw [wordsOf_length]; omega⟩
  · exact ⟨⟨by decide, by decide⟩, by decide⟩
theorem kBm_of {w : World} {M : Nat → Prop} {b : Bm} {A : Option Addr} {c : Nat} (hr : rng .i64 b.size) (h1 : b.words.length ≤ c) (h2 : c ≤ 9223372036854775807) (h : Stab w M (Row (kInt .u64) 1 A b.words)) : Stab w M (fun w' => kBm w' b [.int .i64 b.size, .slice A b.words.length c]) :=
  h.imp fun w' h => ⟨A, c, rfl, hr, h1, h2, h⟩
theorem rClean_any (M : Nat → Prop) (l : List Int) (A : Option Addr) (c : Nat) (w : World) (hM : ∀ b, M b → b < w.heap.size) (hl : l.length ≤ 1000000) (hF : Stab w M (Row (kInt .i64) 1 A l)) :
    Ret Tryd.prog 91 [.slice A l.length c] w (Fresh kBm 65 2 M w (cleanBm l)) := by
  have hr := rng_row hF
  refine enter (M := M) (F := [Row (kInt .i64) 1 A l]) Tryd.func91 rfl rfl rfl (by simpa using hF) fun H => ?_
  repeat' (first | (apply l_rd; exact rd_go; rfl) | (apply q_rd; exact rd_go; rfl) | refine stp ?_ | refine bk_o rfl ?_ | refine c_true ⟨rfl, rfl⟩ ?_ | refine c_false ⟨rfl, rfl⟩ ?_ | (apply l_rdg; rfl; rfl; rfl; exact rd_go; rfl) | refine l_skip rfl rfl rfl rfl ?_ | (apply q_rdg; rfl; rfl; rfl; exact rd_go; rfl) | refine q_skip rfl rfl rfl rfl ?_ | refine c_draw H (by kernel_rfl) ?_ | (refine q_end ?_; clear H; intro _ H) | ((first | refine l_st (z_box H ?_) | refine l_st (s_alloc H rfl ?_)); clear H; intro _ _ _ H) | (refine l_st (t_build0 H rfl ?_); clear H; intro _ _ _ _ H) | (refine l_st (z_sto H ?_); clear H; intro _ H) | ((first | refine c_cond ⟨rfl, rfl⟩ ?_ ?_ | refine c_ncond ⟨rfl, rfl⟩ ?_ ?_ | refine l_split rfl rfl ?_ ?_ | refine q_split rfl rfl ?_ ?_ | refine l_nsplit rfl rfl ?_ ?_ | refine q_nsplit rfl rfl ?_ ?_) <;> intro _ <;> try (exfalso; omega)))
  have H1 := (H.own_nil 65 2).add (f := Chunks kBm 2 ([] : List Bm) []) (fun _ _ _ => Chunks.nil)
  refine c_loopk [4, 3] [0] (fun n vs w' => ∃ (i : Nat) (A3 : Option Addr) (c3 : Nat) (xs : List Bm) (cs : List Value), vs = [.int .i64 i, .slice A3 xs.length c3] ∧ i ≤ l.length ∧ n = l.length - i ∧ xs = cleanBm (l.take i) ∧
      Hp w M w' [] [⟨.slice A3 xs.length c3, 65, 2, xs.length, cs⟩] [Chunks kBm 2 xs cs, Row (kInt .i64) 1 A l]) _ [_] rfl ⟨0, none, 0, [], [], rfl, Nat.zero_le _, rfl, rfl, H1⟩ ?_
  clear H H1
  rintro n _ E0 w2 ⟨i, A3, c3, xs, cs, rfl, hi, rfl, hxs, H⟩
  have hxl : xs.length = i := by rw [hxs, cleanBm, List.length_map, List.length_take]; omega
  by_cases hi' : i < l.length
  · have hri := hr _ (List.getElem_mem hi')
    have hri' := hri
    simp only [rng] at hri'
    repeat' (first | (apply l_rd; exact rd_go; rfl) | (apply q_rd; exact rd_go; rfl) | refine stp ?_ | refine bk_o rfl ?_ | refine c_true ⟨rfl, rfl⟩ ?_ | refine c_false ⟨rfl, rfl⟩ ?_ | (apply l_rdg; rfl; rfl; rfl; exact rd_go; rfl) | refine l_skip rfl rfl rfl rfl ?_ | (apply q_rdg; rfl; rfl; rfl; exact rd_go; rfl) | refine q_skip rfl rfl rfl rfl ?_ | refine c_draw H (by kernel_rfl) ?_ | (refine q_end ?_; clear H; intro _ H) | ((first | refine l_st (z_box H ?_) | refine l_st (s_alloc H rfl ?_)); clear H; intro _ _ _ H) | (refine l_st (t_build0 H rfl ?_); clear H; intro _ _ _ _ H) | (refine l_st (z_sto H ?_); clear H; intro _ H) | ((first | refine c_cond ⟨rfl, rfl⟩ ?_ ?_ | refine c_ncond ⟨rfl, rfl⟩ ?_ ?_ | refine l_split rfl rfl ?_ ?_ | refine q_split rfl rfl ?_ ?_ | refine l_nsplit rfl rfl ?_ ?_ | refine q_nsplit rfl rfl ?_ ?_) <;> intro _ <;> try (exfalso; omega)))
    refine l_st (k_call evs_auto H (rNew_any H.mu _ _ hri) rfl ?_)
    rintro _ w3 ⟨v1, rfl, hf⟩ hb _
    obtain ⟨n1, n2⟩ := newBm_rng hri
    obtain ⟨A5, c5, hA5, s1, s2, H1⟩ := H.takeRow hb hf hM Nat.zero_lt_one (by omega)
    subst hA5
    clear H hf; have H := H1; clear H1
    repeat' (first | (apply l_rd; exact rd_go; rfl) | (apply q_rd; exact rd_go; rfl) | refine stp ?_ | refine bk_o rfl ?_ | refine c_true ⟨rfl, rfl⟩ ?_ | refine c_false ⟨rfl, rfl⟩ ?_ | (apply l_rdg; rfl; rfl; rfl; exact rd_go; rfl) | refine l_skip rfl rfl rfl rfl ?_ | (apply q_rdg; rfl; rfl; rfl; exact rd_go; rfl) | refine q_skip rfl rfl rfl rfl ?_ | refine c_draw H (by kernel_rfl) ?_ | (refine q_end ?_; clear H; intro _ H) | ((first | refine l_st (z_box H ?_) | refine l_st (s_alloc H rfl ?_)); clear H; intro _ _ _ H) | (refine l_st (t_build0 H rfl ?_); clear H; intro _ _ _ _ H) | (refine l_st (z_sto H ?_); clear H; intro _ H) | ((first | refine c_cond ⟨rfl, rfl⟩ ?_ ?_ | refine c_ncond ⟨rfl, rfl⟩ ?_ ?_ | refine l_split rfl rfl ?_ ?_ | refine q_split rfl rfl ?_ ?_ | refine l_nsplit rfl rfl ?_ ?_ | refine q_nsplit rfl rfl ?_ ?_) <;> intro _ <;> try (exfalso; omega)))
    have hk := kBm_of (b := (newBm l[i]).1) n1 s1 s2 (H.fact (Row (kInt .u64) 1 A5 (newBm l[i]).1.words) mem_auto)
    refine l_appc (j := 0) (dd := kBm) (q := .agg [_, _].toArray) (news := [_, _]) (newBm l[i]).1 H rfl rfl mem_auto ⟨rfl, rfl⟩ rfl rfl hk rfl rfl rfl (fun _ => ⟨rfl, rfl⟩) (by omega) rfl ?_
    clear H hk; intro A6 c6 w6 _ H
    repeat' (first | (apply l_rd; exact rd_go; rfl) | (apply q_rd; exact rd_go; rfl) | refine stp ?_ | refine bk_o rfl ?_ | refine c_true ⟨rfl, rfl⟩ ?_ | refine c_false ⟨rfl, rfl⟩ ?_ | (apply l_rdg; rfl; rfl; rfl; exact rd_go; rfl) | refine l_skip rfl rfl rfl rfl ?_ | (apply q_rdg; rfl; rfl; rfl; exact rd_go; rfl) | refine q_skip rfl rfl rfl rfl ?_ | refine c_draw H (by kernel_rfl) ?_ | (refine q_end ?_; clear H; intro _ H) | ((first | refine l_st (z_box H ?_) | refine l_st (s_alloc H rfl ?_)); clear H; intro _ _ _ H) | (refine l_st (t_build0 H rfl ?_); clear H; intro _ _ _ _ H) | (refine l_st (z_sto H ?_); clear H; intro _ H) | ((first | refine c_cond ⟨rfl, rfl⟩ ?_ ?_ | refine c_ncond ⟨rfl, rfl⟩ ?_ ?_ | refine l_split rfl rfl ?_ ?_ | refine q_split rfl rfl ?_ ?_ | refine l_nsplit rfl rfl ?_ ?_ | refine q_nsplit rfl rfl ?_ ?_) <;> intro _ <;> try (exfalso; omega)))
    refine lk_n rfl (n' := l.length - (i + 1)) (by omega) ⟨i + 1, A6, c6, xs ++ [(newBm l[i]).1], cs ++ [.int .i64 (newBm l[i]).1.size, .slice A5 (newBm l[i]).1.words.length c5], rfl, hi', rfl, ?_, H.weak (List.nil_sublist _) (List.Sublist.refl _) (by simp)⟩
    rw [hxs, List.take_succ_eq_append_getElem hi']; unfold cleanBm; rw [List.map_append]; rfl
  · have hi2 : i = l.length := by omega
    repeat' (first | (apply l_rd; exact rd_go; rfl) | (apply q_rd; exact rd_go; rfl) | refine stp ?_ | refine bk_o rfl ?_ | refine c_true ⟨rfl, rfl⟩ ?_ | refine c_false ⟨rfl, rfl⟩ ?_ | (apply l_rdg; rfl; rfl; rfl; exact rd_go; rfl) | refine l_skip rfl rfl rfl rfl ?_ | (apply q_rdg; rfl; rfl; rfl; exact rd_go; rfl) | refine q_skip rfl rfl rfl rfl ?_ | refine c_draw H (by kernel_rfl) ?_ | (refine q_end ?_; clear H; intro _ H) | ((first | refine l_st (z_box H ?_) | refine l_st (s_alloc H rfl ?_)); clear H; intro _ _ _ H) | (refine l_st (t_build0 H rfl ?_); clear H; intro _ _ _ _ H) | (refine l_st (z_sto H ?_); clear H; intro _ H) | ((first | refine c_cond ⟨rfl, rfl⟩ ?_ ?_ | refine c_ncond ⟨rfl, rfl⟩ ?_ ?_ | refine l_split rfl rfl ?_ ?_ | refine q_split rfl rfl ?_ ?_ | refine l_nsplit rfl rfl ?_ ?_ | refine q_nsplit rfl rfl ?_ ?_) <;> intro _ <;> try (exfalso; omega)))
    have e1 : cleanBm l = xs := by rw [hxs, hi2, List.take_length]
    rw [e1]
    exact ret1 H rfl rfl rfl (H.fresh (j := 0) rfl mem_auto rfl)
end Go.Proofs.YtiolpldihoghiaaDoor

namespace Go.Proofs.YtiolpldihoghiaaDoor
open Go.RowKit
set_option linter.unusedVariables false
set_option linter.unusedSimpArgs false
set_option maxHeartbeats 8000000
theorem bm_of_chunk {w : World} {M : Nat → Prop} {x : Bm} {cs : List Value} (h : Stab w M (fun w' => kBm w' x cs)) : ∃ A c, cs = [.int .i64 x.size, .slice A x.words.length c] ∧ rng .i64 x.size ∧ Stab w M (Row (kInt .u64) 1 A x.words) := by
  obtain ⟨A, c, h1, h2, _, _, h3⟩ := h.bm
  exact ⟨A, c, h1, h2, h3⟩
theorem setBm_rng {b : Bm} {e : Ext} (h : rng .i64 b.size) (hw : b.words.length ≤ 100000) : rng .i64 (setBm b e).1.size ∧ (setBm b e).1.words.length ≤ 100000 := by
  unfold setBm
  repeat' split
  all_goals first | exact ⟨⟨by decide, by decide⟩, by decide⟩ | exact ⟨h, by rw [wordsOf_length]; exact hw⟩
theorem markW_len (l : List Bm) (x : Wr) : (markW l x).length = l.length := by simp [markW]
theorem markW_words {l : List Bm} {x : Wr} (h : ∀ b ∈ l, rng .i64 b.size ∧ b.words.length ≤ 100000) : ∀ b ∈ markW l x, rng .i64 b.size ∧ b.words.length ≤ 100000 := by
  intro b hb
  rcases List.mem_or_eq_of_mem_set hb with h' | rfl
  · exact h b h'
  · cases hc : l[x.vol.toNat]? with
    | none => exact setBm_rng (b := noBm) ⟨by decide, by decide⟩ (by decide)
    | some y => have := h y (List.mem_of_getElem? hc); exact setBm_rng this.1 this.2
theorem markW_at {l : List Bm} {x : Wr} (hv : x.vol.toNat < l.length) : markW l x = l.set x.vol.toNat (setBm l[x.vol.toNat] ⟨x.start, x.data.length⟩).1 := by
  unfold markW; rw [List.getElem?_eq_getElem hv]; rfl
theorem rMark_any (M : Nat → Prop) (l : List Bm) (ws : List Wr) (A B : Option Addr) (c d : Nat) (w : World) (hM : ∀ b, M b → b < w.heap.size) (hl : l.length ≤ 1000000) (hb : ∀ b ∈ l, b.words.length ≤ 100000)
    (hv : ∀ x ∈ ws, 0 ≤ x.vol ∧ x.vol < l.length) (hF : Stab w M (Row kBm 2 A l)) (hF' : Stab w M (Row kWr 3 B ws)) :
    Ret Tryd.prog 90 [.slice A l.length c, .slice B ws.length d] w (Fresh kBm 65 2 M w (markAll l ws)) := by
  have hll := hF'.now.len
  refine enter (M := M) (F := [Row kBm 2 A l, Row kWr 3 B ws]) Tryd.func90 rfl rfl rfl (by simpa using ⟨hF, hF'⟩) fun H => ?_
  repeat' (first | (apply l_rd; exact rd_go; rfl) | (apply q_rd; exact rd_go; rfl) | refine stp ?_ | refine bk_o rfl ?_ | refine c_true ⟨rfl, rfl⟩ ?_ | refine c_false ⟨rfl, rfl⟩ ?_ | (apply l_rdg; rfl; rfl; rfl; exact rd_go; rfl) | refine l_skip rfl rfl rfl rfl ?_ | (apply q_rdg; rfl; rfl; rfl; exact rd_go; rfl) | refine q_skip rfl rfl rfl rfl ?_ | (refine q_end ?_; clear H; intro _ H) | ((first | refine l_st (z_box H ?_) | refine l_st (s_alloc H rfl ?_)); clear H; intro _ _ _ H) | (refine l_st (t_build0 H rfl ?_); clear H; intro _ _ _ _ H) | (refine l_st (z_sto H ?_); clear H; intro _ H) | ((first | refine c_cond ⟨rfl, rfl⟩ ?_ ?_ | refine c_ncond ⟨rfl, rfl⟩ ?_ ?_ | refine l_split rfl rfl ?_ ?_ | refine q_split rfl rfl ?_ ?_ | refine l_nsplit rfl rfl ?_ ?_ | refine q_nsplit rfl rfl ?_ ?_) <;> intro _ <;> try (exfalso; omega)))
  have H1 := (H.own_nil 65 2).add (f := Chunks kBm 2 ([] : List Bm) []) (fun _ _ _ => Chunks.nil)
  refine c_loopk [6, 5] [0, 1] (fun n vs w' => ∃ (i : Nat) (A3 : Option Addr) (c3 : Nat) (cs : List Value), vs = [.int .i64 i, .slice A3 (l.take i).length c3] ∧ i ≤ l.length ∧ n = l.length - i ∧ (∀ b ∈ l.take i, rng .i64 b.size) ∧
      Hp w M w' [] [⟨.slice A3 (l.take i).length c3, 65, 2, (l.take i).length, cs⟩] [Chunks kBm 2 (l.take i) cs, Row kBm 2 A l, Row kWr 3 B ws]) _ [_, _] rfl ⟨0, none, 0, [], rfl, Nat.zero_le _, rfl, (fun _ h => by cases h), H1⟩ ?_
  clear H H1
  rintro n _ E0 w2 ⟨i, A3, c3, cs, rfl, hi, rfl, hrg, H⟩
  have hxl : (l.take i).length = i := by rw [List.length_take]; omega
  by_cases hi' : i < l.length
  · obtain ⟨A5, c5, r1, q1, q2, H1⟩ := H.openBm (A := A) (xs := l) (i := i) mem_auto hi'
    clear H; have H := H1; clear H1
    have hbi := hb _ (List.getElem_mem hi')
    repeat' (first | (apply l_rd; exact rd_go; rfl) | (apply q_rd; exact rd_go; rfl) | refine stp ?_ | refine bk_o rfl ?_ | refine c_true ⟨rfl, rfl⟩ ?_ | refine c_false ⟨rfl, rfl⟩ ?_ | (apply l_rdg; rfl; rfl; rfl; exact rd_go; rfl) | refine l_skip rfl rfl rfl rfl ?_ | (apply q_rdg; rfl; rfl; rfl; exact rd_go; rfl) | refine q_skip rfl rfl rfl rfl ?_ | (refine q_end ?_; clear H; intro _ H) | ((first | refine l_st (z_box H ?_) | refine l_st (s_alloc H rfl ?_)); clear H; intro _ _ _ H) | (refine l_st (t_build0 H rfl ?_); clear H; intro _ _ _ _ H) | (refine l_st (z_sto H ?_); clear H; intro _ H) | ((first | refine c_cond ⟨rfl, rfl⟩ ?_ ?_ | refine c_ncond ⟨rfl, rfl⟩ ?_ ?_ | refine l_split rfl rfl ?_ ?_ | refine q_split rfl rfl ?_ ?_ | refine l_nsplit rfl rfl ?_ ?_ | refine q_nsplit rfl rfl ?_ ?_) <;> intro _ <;> try (exfalso; omega)))
    refine l_st (k_call evs_auto H (rCopy_any _ _ A5 c5 _ hbi (H.fact (Row (kInt .u64) 1 A5 l[i].words) mem_auto)) rfl ?_)
    rintro _ w3 ⟨v1, rfl, hf⟩ hb3 _
    obtain ⟨A6, c6, hA6, s1, s2, H1⟩ := H.takeRow hb3 hf hM Nat.zero_lt_one (by omega)
    subst hA6
    clear H hf; have H := H1; clear H1
    repeat' (first | (apply l_rd; exact rd_go; rfl) | (apply q_rd; exact rd_go; rfl) | refine stp ?_ | refine bk_o rfl ?_ | refine c_true ⟨rfl, rfl⟩ ?_ | refine c_false ⟨rfl, rfl⟩ ?_ | (apply l_rdg; rfl; rfl; rfl; exact rd_go; rfl) | refine l_skip rfl rfl rfl rfl ?_ | (apply q_rdg; rfl; rfl; rfl; exact rd_go; rfl) | refine q_skip rfl rfl rfl rfl ?_ | (refine q_end ?_; clear H; intro _ H) | ((first | refine l_st (z_box H ?_) | refine l_st (s_alloc H rfl ?_)); clear H; intro _ _ _ H) | (refine l_st (t_build0 H rfl ?_); clear H; intro _ _ _ _ H) | (refine l_st (z_sto H ?_); clear H; intro _ H) | ((first | refine c_cond ⟨rfl, rfl⟩ ?_ ?_ | refine c_ncond ⟨rfl, rfl⟩ ?_ ?_ | refine l_split rfl rfl ?_ ?_ | refine q_split rfl rfl ?_ ?_ | refine l_nsplit rfl rfl ?_ ?_ | refine q_nsplit rfl rfl ?_ ?_) <;> intro _ <;> try (exfalso; omega)))
    have hk := kBm_of (b := l[i]) r1 s1 s2 (H.fact (Row (kInt .u64) 1 A6 l[i].words) mem_auto)
    refine l_appc (j := 0) (dd := kBm) (q := .agg [_, _].toArray) (news := [_, _]) (xs := l.take i) l[i] H rfl rfl mem_auto ⟨rfl, rfl⟩ rfl rfl hk rfl rfl rfl (fun _ => ⟨rfl, rfl⟩) (by omega) rfl ?_
    clear H hk; intro A7 c7 w6 _ H
    have ht := List.take_succ_eq_append_getElem hi'
    rw [← ht] at H ⊢
    repeat' (first | (apply l_rd; exact rd_go; rfl) | (apply q_rd; exact rd_go; rfl) | refine stp ?_ | refine bk_o rfl ?_ | refine c_true ⟨rfl, rfl⟩ ?_ | refine c_false ⟨rfl, rfl⟩ ?_ | (apply l_rdg; rfl; rfl; rfl; exact rd_go; rfl) | refine l_skip rfl rfl rfl rfl ?_ | (apply q_rdg; rfl; rfl; rfl; exact rd_go; rfl) | refine q_skip rfl rfl rfl rfl ?_ | (refine q_end ?_; clear H; intro _ H) | ((first | refine l_st (z_box H ?_) | refine l_st (s_alloc H rfl ?_)); clear H; intro _ _ _ H) | (refine l_st (t_build0 H rfl ?_); clear H; intro _ _ _ _ H) | (refine l_st (z_sto H ?_); clear H; intro _ H) | ((first | refine c_cond ⟨rfl, rfl⟩ ?_ ?_ | refine c_ncond ⟨rfl, rfl⟩ ?_ ?_ | refine l_split rfl rfl ?_ ?_ | refine q_split rfl rfl ?_ ?_ | refine l_nsplit rfl rfl ?_ ?_ | refine q_nsplit rfl rfl ?_ ?_) <;> intro _ <;> try (exfalso; omega)))
    refine lk_n rfl (n' := l.length - (i + 1)) (by omega) ⟨i + 1, A7, c7, _, rfl, hi', rfl, ?_, H.weak (List.nil_sublist _) (List.Sublist.refl _) (by simp)⟩
    intro b hb'
    rw [ht] at hb'
    rcases List.mem_append.1 hb' with h | h
    · exact hrg b h
    · obtain rfl := List.mem_singleton.1 h; exact r1
  have hi2 : l.take i = l := List.take_of_length_le (by omega)
  rw [hi2] at H hrg hxl
  rw [hi2]
  repeat' (first | (apply l_rd; exact rd_go; rfl) | (apply q_rd; exact rd_go; rfl) | refine stp ?_ | refine bk_o rfl ?_ | refine c_true ⟨rfl, rfl⟩ ?_ | refine c_false ⟨rfl, rfl⟩ ?_ | (apply l_rdg; rfl; rfl; rfl; exact rd_go; rfl) | refine l_skip rfl rfl rfl rfl ?_ | (apply q_rdg; rfl; rfl; rfl; exact rd_go; rfl) | refine q_skip rfl rfl rfl rfl ?_ | (refine q_end ?_; clear H; intro _ H) | ((first | refine l_st (z_box H ?_) | refine l_st (s_alloc H rfl ?_)); clear H; intro _ _ _ H) | (refine l_st (t_build0 H rfl ?_); clear H; intro _ _ _ _ H) | (refine l_st (z_sto H ?_); clear H; intro _ H) | ((first | refine c_cond ⟨rfl, rfl⟩ ?_ ?_ | refine c_ncond ⟨rfl, rfl⟩ ?_ ?_ | refine l_split rfl rfl ?_ ?_ | refine q_split rfl rfl ?_ ?_ | refine l_nsplit rfl rfl ?_ ?_ | refine q_nsplit rfl rfl ?_ ?_) <;> intro _ <;> try (exfalso; omega)))
  have hwl : ∀ b ∈ l, rng .i64 b.size ∧ b.words.length ≤ 100000 := fun b h => ⟨hrg b h, hb b h⟩
  refine c_loopk [7] [1, 5] (fun n vs w' => ∃ (k : Nat) (xs : List Bm) (cs : List Value), vs = [.int .i64 k] ∧ k ≤ ws.length ∧ n = ws.length - k ∧ xs = markAll l (ws.take k) ∧ xs.length = l.length ∧ (∀ b ∈ xs, rng .i64 b.size ∧ b.words.length ≤ 100000) ∧
      Hp w M w' [] [⟨.slice A3 l.length c3, 65, 2, l.length, cs⟩] [Chunks kBm 2 xs cs, Row kWr 3 B ws]) _ [_, _] rfl ⟨0, l, cs, rfl, Nat.zero_le _, rfl, rfl, rfl, hwl, H.weak (List.nil_sublist _) (List.Sublist.refl _) (by simp)⟩ ?_
  clear H
  rintro n _ E1 w3 ⟨k, xs, cs, rfl, hk, rfl, hxs, hxl2, hxr, H⟩
  by_cases hk' : k < ws.length
  · obtain ⟨A5, c5, r1, r2, q1, q2, H1⟩ := H.openWr (A := B) (xs := ws) (i := k) mem_auto hk'
    clear H; have H := H1; clear H1
    have hdl := (H.fact (Row kSec 8 A5 ws[k].data) mem_auto).now.len
    obtain ⟨v1, v2⟩ := hv _ (List.getElem_mem hk')
    have hvx : ws[k].vol.toNat < xs.length := by omega
    repeat' (first | (apply l_rd; exact rd_go; rfl) | (apply q_rd; exact rd_go; rfl) | refine stp ?_ | refine bk_o rfl ?_ | refine c_true ⟨rfl, rfl⟩ ?_ | refine c_false ⟨rfl, rfl⟩ ?_ | (apply l_rdg; rfl; rfl; rfl; exact rd_go; rfl) | refine l_skip rfl rfl rfl rfl ?_ | (apply q_rdg; rfl; rfl; rfl; exact rd_go; rfl) | refine q_skip rfl rfl rfl rfl ?_ | (refine q_end ?_; clear H; intro _ H) | ((first | refine l_st (z_box H ?_) | refine l_st (s_alloc H rfl ?_)); clear H; intro _ _ _ H) | (refine l_st (t_build0 H rfl ?_); clear H; intro _ _ _ _ H) | (refine l_st (z_sto H ?_); clear H; intro _ H) | ((first | refine c_cond ⟨rfl, rfl⟩ ?_ ?_ | refine c_ncond ⟨rfl, rfl⟩ ?_ ?_ | refine l_split rfl rfl ?_ ?_ | refine q_split rfl rfl ?_ ?_ | refine l_nsplit rfl rfl ?_ ?_ | refine q_nsplit rfl rfl ?_ ?_) <;> intro _ <;> try (exfalso; omega)))
    refine c_mix H [19] ?_
    clear H; intro w4 H
    obtain ⟨Am, cm, hcm, hrm, hrow⟩ := bm_of_chunk (H.chunk (dd := kBm) (sz := 2) (xs := xs) (cs := cs) (m := ws[k].vol.toNat) mem_auto hvx)
    (apply m_rd2 (i := 0) rfl (by decide +kernel) (by first | exact Below.refl _ _ | assumption); exact rd_go; rfl); (apply m_rd2 (i := 1) rfl (by decide +kernel) (by first | exact Below.refl _ _ | assumption); exact rd_go; rfl); (apply m_rd2 (i := 2) rfl (by decide +kernel) (by first | exact Below.refl _ _ | assumption); exact rd_go; rfl); (apply m_rd2 (i := 3) rfl (by decide +kernel) (by first | exact Below.refl _ _ | assumption); exact rd_go; rfl); (apply m_rd2 (i := 4) rfl (by decide +kernel) (by first | exact Below.refl _ _ | assumption); exact rd_go; rfl); (apply m_rd2 (i := 5) rfl (by decide +kernel) (by first | exact Below.refl _ _ | assumption); exact rd_go; rfl)
    apply m_rd2 (i := 6) rfl (by decide +kernel) (by first | exact Below.refl _ _ | assumption)
    exact rd_index_own (j := 0) (m := ws[k].vol.toNat) (v := .slice _ _ _) H rfl ⟨rfl, rfl⟩ ⟨rfl, rfl⟩ (by omega) (by omega)
    rfl
    apply m_rd2 (i := 7) rfl (by decide +kernel) (by first | exact Below.refl _ _ | assumption)
    exact rd_load_opa (j := 0) H ⟨rfl, rfl⟩ rfl (by omega) hcm rfl
    rfl
    (apply m_rd2 (i := 8) rfl (by decide +kernel) (by first | exact Below.refl _ _ | assumption); exact rd_go; rfl); (apply m_rd2 (i := 9) rfl (by decide +kernel) (by first | exact Below.refl _ _ | assumption); exact rd_go; rfl); (apply m_rd2 (i := 10) rfl (by decide +kernel) (by first | exact Below.refl _ _ | assumption); exact rd_go; rfl); (apply m_rd2 (i := 11) rfl (by decide +kernel) (by first | exact Below.refl _ _ | assumption); exact rd_go; rfl); (apply m_rd2 (i := 12) rfl (by decide +kernel) (by first | exact Below.refl _ _ | assumption); exact rd_go; rfl); (apply m_rd2 (i := 13) rfl (by decide +kernel) (by first | exact Below.refl _ _ | assumption); exact rd_go; rfl)
    refine m_one (i := 14) (by kernel_rfl) rfl (k_call evs_auto H (rSet_any _ (xs[(ws[k]'hk').vol.toNat]'hvx) Am cm ⟨(ws[k]'hk').start, (ws[k]'hk').data.length⟩ _ hrm r2 (by simp only [rng]; omega) hrow) rfl ?_)
    rintro _ w5 ⟨v3, rfl, hf⟩ hb5 _
    have hx1 := setBm_rng (e := ⟨ws[k].start, ws[k].data.length⟩) hrm (hxr _ (List.getElem_mem hvx)).2
    obtain ⟨A8, c8, hv8, p1, p2, H1⟩ := H.takeRow hb5 hf hM Nat.zero_lt_one (by omega)
    subst hv8
    clear H hf hrow; have H := H1; clear H1
    refine ⟨fun _ => hb5, ?_⟩
    (apply m_pure (i := 15) rfl (by decide +kernel); intro _; exact rd_go; rfl); (apply m_pure (i := 16) rfl (by decide +kernel); intro _; exact rd_go; rfl); (apply m_pure (i := 17) rfl (by decide +kernel); intro _; exact rd_go; rfl)
    apply m_pure (i := 18) (v := op (.slice A3 l.length c3) (ws[k]'hk').vol.toNat 2 0) rfl (by decide +kernel)
    intro w'
    exact rd_index_at (j := 0) (m := (ws[k]'hk').vol.toNat) (v := .slice _ _ _) H rfl ⟨rfl, rfl⟩ ⟨rfl, rfl⟩ (by omega) (by omega)
    rfl
    have hkb := kBm_of hx1.1 p1 p2 (H.fact (Row (kInt .u64) 1 A8 (setBm xs[ws[k].vol.toNat] ⟨ws[k].start, ws[k].data.length⟩).1.words) mem_auto)
    refine m_one (i := 19) (by kernel_rfl) rfl (t_storec (j := 0) (dd := kBm) (vs := [_, _]) (xs := xs) _ H rfl mem_auto ⟨rfl, rfl⟩ ⟨rfl, rfl⟩ hxl2.symm (by omega) rfl rfl hkb ?_)
    intro w6 H6
    refine ⟨fun h => (by cases h), m_end (by kernel_rfl) ?_⟩
    clear H hkb; have H := H6; clear H6
    rw [← markW_at hvx] at H
    repeat' (first | (apply l_rd; exact rd_go; rfl) | (apply q_rd; exact rd_go; rfl) | refine stp ?_ | refine bk_o rfl ?_ | refine c_true ⟨rfl, rfl⟩ ?_ | refine c_false ⟨rfl, rfl⟩ ?_ | (apply l_rdg; rfl; rfl; rfl; exact rd_go; rfl) | refine l_skip rfl rfl rfl rfl ?_ | (apply q_rdg; rfl; rfl; rfl; exact rd_go; rfl) | refine q_skip rfl rfl rfl rfl ?_ | (refine q_end ?_; clear H; intro _ H) | ((first | refine l_st (z_box H ?_) | refine l_st (s_alloc H rfl ?_)); clear H; intro _ _ _ H) | (refine l_st (t_build0 H rfl ?_); clear H; intro _ _ _ _ H) | (refine l_st (z_sto H ?_); clear H; intro _ H) | ((first | refine c_cond ⟨rfl, rfl⟩ ?_ ?_ | refine c_ncond ⟨rfl, rfl⟩ ?_ ?_ | refine l_split rfl rfl ?_ ?_ | refine q_split rfl rfl ?_ ?_ | refine l_nsplit rfl rfl ?_ ?_ | refine q_nsplit rfl rfl ?_ ?_) <;> intro _ <;> try (exfalso; omega)))
    refine lk_n rfl (n' := ws.length - (k + 1)) (by omega) ⟨k + 1, markW xs ws[k], _, rfl, hk', rfl, ?_, (markW_len _ _).trans hxl2, markW_words hxr, H.weak (List.nil_sublist _) (List.Sublist.refl _) (by simp)⟩
    rw [List.take_succ_eq_append_getElem hk', markAll, List.foldl_append, hxs]; rfl
  · repeat' (first | (apply l_rd; exact rd_go; rfl) | (apply q_rd; exact rd_go; rfl) | refine stp ?_ | refine bk_o rfl ?_ | refine c_true ⟨rfl, rfl⟩ ?_ | refine c_false ⟨rfl, rfl⟩ ?_ | (apply l_rdg; rfl; rfl; rfl; exact rd_go; rfl) | refine l_skip rfl rfl rfl rfl ?_ | (apply q_rdg; rfl; rfl; rfl; exact rd_go; rfl) | refine q_skip rfl rfl rfl rfl ?_ | (refine q_end ?_; clear H; intro _ H) | ((first | refine l_st (z_box H ?_) | refine l_st (s_alloc H rfl ?_)); clear H; intro _ _ _ H) | (refine l_st (t_build0 H rfl ?_); clear H; intro _ _ _ _ H) | (refine l_st (z_sto H ?_); clear H; intro _ H) | ((first | refine c_cond ⟨rfl, rfl⟩ ?_ ?_ | refine c_ncond ⟨rfl, rfl⟩ ?_ ?_ | refine l_split rfl rfl ?_ ?_ | refine q_split rfl rfl ?_ ?_ | refine l_nsplit rfl rfl ?_ ?_ | refine q_nsplit rfl rfl ?_ ?_) <;> intro _ <;> try (exfalso; omega)))
    have e1 : markAll l ws = xs := by rw [hxs, List.take_of_length_le (by omega)]
    rw [e1]
    exact ret1 H rfl rfl rfl (H.fresh (j := 0) rfl mem_auto (by omega))
end Go.Proofs.YtiolpldihoghiaaDoor

namespace Go.Proofs.YtiolpldihoghiaaDoor
open Go.RowKit
set_option linter.unusedVariables false
set_option linter.unusedSimpArgs false
set_option maxHeartbeats 8000000
theorem wrs_ok {w : World} {M : Nat → Prop} {A : Option Addr} {l : List Wr} (h : Stab w M (Row kWr 3 A l)) : ∀ x ∈ l, (rng .i64 x.vol ∧ rng .i64 x.start ∧ x.data.length ≤ 140737488355328) ∧ ∀ s ∈ x.data, SecOk s := fun x hx => by
  obtain ⟨cs, hd⟩ := mem_row h (by decide) hx
  obtain ⟨A', c', _, r1, r2, _, _, hr⟩ := hd.wr
  exact ⟨⟨r1, r2, hr.now.len⟩, sec_ok hr⟩
theorem applyGo_good' {sizes : List Int} : ∀ (l : List Wr) (out : List (List Sec)) (i : Int), sizesOf out = sizes → ImOk out → (∀ x ∈ l, ∀ s ∈ x.data, SecOk s) → ImOk (applyGo sizes out i l).1 ∧ ((applyGo sizes out i l).1 = [] ∨ sizesOf (applyGo sizes out i l).1 = sizes)
  | [], out, i, h, ho, _ => ⟨ho, .inr h⟩
  | x :: r, out, i, h, ho, hd => by
    unfold applyGo
    split
    · exact ⟨fun l hl => (by cases hl), .inl rfl⟩
    · rename_i hg
      rw [← h] at hg
      exact applyGo_good' r _ _ ((putW_sizes hg).trans h) (putW_ok ho (hd x (List.mem_cons_self ..))) (fun y hy => hd y (List.mem_cons_of_mem _ hy))
theorem lens_of {im out : List (List Sec)} (h0 : imErr im = 0) (h : sizesOf out = sizesOf im) : out.length ≤ 8 ∧ ∀ l ∈ out, l.length ≤ 4096 := by
  obtain ⟨z1, z2, z3⟩ := sizesErr_zero h0
  refine ⟨by rw [← sizesOf_len out, h]; exact z2, fun l hl => ?_⟩
  have hm : (l.length : Int) ∈ sizesOf im := by rw [← h]; exact List.mem_map.2 ⟨l, hl, rfl⟩
  have := z3 _ hm; omega
theorem applySp_good {im : List (List Sec)} {l : List Wr} (ho : ImOk im) (hd : ∀ x ∈ l, ∀ s ∈ x.data, SecOk s) : ImOk (applySp im l).1 ∧ (applySp im l).1.length ≤ 8 ∧ ∀ v ∈ (applySp im l).1, v.length ≤ 4096 := by
  unfold applySp
  split
  · exact ⟨fun l hl => (by cases hl), by simp, fun l hl => (by cases hl)⟩
  · rename_i h
    have hz : imErr im = 0 := by omega
    obtain ⟨h1, h2⟩ := applyGo_good' l im 0 rfl ho hd
    refine ⟨h1, ?_⟩
    rcases h2 with h2 | h2
    · rw [h2]; exact ⟨by simp, fun l hl => (by cases hl)⟩
    · exact lens_of hz h2
def sec1 (b : Int) : Sec := [b, 0, 0, 0, 0, 0, 0, 0]
theorem sec1_ok {b : Int} (h : rng .u8 b) : SecOk (sec1 b) := ⟨rfl, fun x hx => by
  simp only [rng] at h ⊢
  simp [sec1] at hx
  omega⟩
/-- A write of one sector. -/
def OneRet (M : Nat → Prop) (at_ b : Int) (v : Value) (w' : World) : Prop := ∃ A c, v = .agg [.int .i64 0, .int .i64 at_, .slice A 1 c].toArray ∧ 1 ≤ c ∧ c ≤ 9223372036854775807 ∧ Stab w' M (Row kSec 8 A [sec1 b])
theorem one_any (M : Nat → Prop) (a b : Int) (w : World) (hM : ∀ b, M b → b < w.heap.size) (hb : rng .u8 b) : Ret Tryd.prog 39 [.int .i64 a, .int .u8 b] w (OneRet M a b) := by
  refine enter (M := M) (F := []) Tryd.func39 rfl rfl rfl (by simp) fun H => ?_
  repeat' (first | (apply l_rd; exact rd_go; rfl) | (apply q_rd; exact rd_go; rfl) | refine stp ?_ | refine bk_o rfl ?_ | refine c_true ⟨rfl, rfl⟩ ?_ | refine c_false ⟨rfl, rfl⟩ ?_ | (apply l_rdg; rfl; rfl; rfl; exact rd_go; rfl) | refine l_skip rfl rfl rfl rfl ?_ | (apply q_rdg; rfl; rfl; rfl; exact rd_go; rfl) | refine q_skip rfl rfl rfl rfl ?_ | refine c_draw H (by kernel_rfl) ?_ | (refine q_end ?_; clear H; intro _ H) | ((first | refine l_st (z_box H ?_) | refine l_st (s_alloc H rfl ?_)); clear H; intro _ _ _ H) | (refine l_st (t_build0 H rfl ?_); clear H; intro _ _ _ _ H) | (refine l_st (z_sto H ?_); clear H; intro _ H) | ((first | refine c_cond ⟨rfl, rfl⟩ ?_ ?_ | refine c_ncond ⟨rfl, rfl⟩ ?_ ?_ | refine l_split rfl rfl ?_ ?_ | refine q_split rfl rfl ?_ ?_ | refine l_nsplit rfl rfl ?_ ?_ | refine q_nsplit rfl rfl ?_ ?_) <;> intro _ <;> try (exfalso; omega)))
  refine l_st (t_slice (cs := [sec1 b].flatMap gSec) [.agg [_, _, _, _, _, _, _, _].toArray] H evp_auto rfl rfl rfl rfl rfl rfl rfl ?_)
  clear H; intro A1 c1 w1 _ _ H
  obtain ⟨s1, s2, H1⟩ := H.sealf (dd := kSec) (f := gSec) (xs := [sec1 b]) gSec_len (fun w' x hx => by obtain rfl := List.mem_singleton.1 hx; exact (sec1_ok hb).k w') hM (by decide) rfl (by simp)
  clear H; have H := H1; clear H1
  repeat' (first | (apply l_rd; exact rd_go; rfl) | (apply q_rd; exact rd_go; rfl) | refine stp ?_ | refine bk_o rfl ?_ | refine c_true ⟨rfl, rfl⟩ ?_ | refine c_false ⟨rfl, rfl⟩ ?_ | (apply l_rdg; rfl; rfl; rfl; exact rd_go; rfl) | refine l_skip rfl rfl rfl rfl ?_ | (apply q_rdg; rfl; rfl; rfl; exact rd_go; rfl) | refine q_skip rfl rfl rfl rfl ?_ | refine c_draw H (by kernel_rfl) ?_ | (refine q_end ?_; clear H; intro _ H) | ((first | refine l_st (z_box H ?_) | refine l_st (s_alloc H rfl ?_)); clear H; intro _ _ _ H) | (refine l_st (t_build0 H rfl ?_); clear H; intro _ _ _ _ H) | (refine l_st (z_sto H ?_); clear H; intro _ H) | ((first | refine c_cond ⟨rfl, rfl⟩ ?_ ?_ | refine c_ncond ⟨rfl, rfl⟩ ?_ ?_ | refine l_split rfl rfl ?_ ?_ | refine q_split rfl rfl ?_ ?_ | refine l_nsplit rfl rfl ?_ ?_ | refine q_nsplit rfl rfl ?_ ?_) <;> intro _ <;> try (exfalso; omega)))
  refine retc (i := 0) H rfl rfl rfl rfl rfl ⟨A1, c1, rfl, s1, s2, (H.fact (Row kSec 8 A1 [sec1 b]) mem_auto).mono fun b h => .inl h⟩
/-- A point whose bitmaps and image are new. -/
def PtRet (M : Nat → Prop) (site : Int) (lv : Value) (di : List Bm) (im : List (List Sec)) (v : Value) (w' : World) : Prop :=
  ∃ A1 c1 A2 c2, v = .agg [.int .i64 site, lv, .slice A1 di.length c1, .slice A2 im.length c2].toArray ∧ (di.length ≤ c1 ∧ c1 ≤ 9223372036854775807) ∧ (im.length ≤ c2 ∧ c2 ≤ 9223372036854775807) ∧ Stab w' M (Row kBm 2 A1 di) ∧ Stab w' M (Row kVol 1 A2 im)
theorem point_any (M : Nat → Prop) (site : Int) (im : List (List Sec)) (l : List Wr) (A B Al : Option Addr) (c d nl cl : Nat) (w : World) (hM : ∀ b, M b → b < w.heap.size) (hl : im.length ≤ 1000000) (hv : ∀ x ∈ l, 0 ≤ x.vol ∧ x.vol < im.length)
    (hF : Stab w M (Row kVol 1 A im)) (hF' : Stab w M (Row kWr 3 B l)) :
    Ret Tryd.prog 38 [.int .i64 site, .slice A im.length c, .slice Al nl cl, .slice B l.length d] w (PtRet M site (.slice Al nl cl) (markAll (cleanBm (sizesOf im)) l) (applySp im l).1) := by
  have hok := im_ok hF
  have hwo := wrs_ok hF'
  obtain ⟨g1, g2, g3⟩ := applySp_good hok (fun x hx => (hwo x hx).2)
  have hvl := vol_len hF
  refine enter (M := M) (F := [Row kVol 1 A im, Row kWr 3 B l]) Tryd.func38 rfl rfl rfl (by simpa using ⟨hF, hF'⟩) fun H => ?_
  repeat' (first | (apply l_rd; exact rd_go; rfl) | (apply q_rd; exact rd_go; rfl) | refine stp ?_ | refine bk_o rfl ?_ | refine c_true ⟨rfl, rfl⟩ ?_ | refine c_false ⟨rfl, rfl⟩ ?_ | (apply l_rdg; rfl; rfl; rfl; exact rd_go; rfl) | refine l_skip rfl rfl rfl rfl ?_ | (apply q_rdg; rfl; rfl; rfl; exact rd_go; rfl) | refine q_skip rfl rfl rfl rfl ?_ | (refine q_end ?_; clear H; intro _ H) | ((first | refine l_st (z_box H ?_) | refine l_st (s_alloc H rfl ?_)); clear H; intro _ _ _ H) | (refine l_st (t_build0 H rfl ?_); clear H; intro _ _ _ _ H) | (refine l_st (z_sto H ?_); clear H; intro _ H) | ((first | refine c_cond ⟨rfl, rfl⟩ ?_ ?_ | refine c_ncond ⟨rfl, rfl⟩ ?_ ?_ | refine l_split rfl rfl ?_ ?_ | refine q_split rfl rfl ?_ ?_ | refine l_nsplit rfl rfl ?_ ?_ | refine q_nsplit rfl rfl ?_ ?_) <;> intro _ <;> try (exfalso; omega)))
  refine l_st (k_call evs_auto H (rApply_any _ im l A B c d _ hl (H.fact _ mem_auto) (H.fact _ mem_auto)) rfl ?_)
  rintro _ w1 ⟨v1, rfl, hf⟩ hb1 _
  obtain ⟨A5, c5, cs, rfl, hcs, H1⟩ := H.takeG hb1 hf
  obtain ⟨s1, s2, H2⟩ := H1.sealG (dd := kSec) hM (by decide) rfl hcs gSec_len (fun w' l hl x hx => (g1 l hl x hx).k w') ⟨by omega, fun l hl => by have := g3 l hl; omega⟩
  clear H H1 hf; have H := H2; clear H2
  repeat' (first | (apply l_rd; exact rd_go; rfl) | (apply q_rd; exact rd_go; rfl) | refine stp ?_ | refine bk_o rfl ?_ | refine c_true ⟨rfl, rfl⟩ ?_ | refine c_false ⟨rfl, rfl⟩ ?_ | (apply l_rdg; rfl; rfl; rfl; exact rd_go; rfl) | refine l_skip rfl rfl rfl rfl ?_ | (apply q_rdg; rfl; rfl; rfl; exact rd_go; rfl) | refine q_skip rfl rfl rfl rfl ?_ | (refine q_end ?_; clear H; intro _ H) | ((first | refine l_st (z_box H ?_) | refine l_st (s_alloc H rfl ?_)); clear H; intro _ _ _ H) | (refine l_st (t_build0 H rfl ?_); clear H; intro _ _ _ _ H) | (refine l_st (z_sto H ?_); clear H; intro _ H) | ((first | refine c_cond ⟨rfl, rfl⟩ ?_ ?_ | refine c_ncond ⟨rfl, rfl⟩ ?_ ?_ | refine l_split rfl rfl ?_ ?_ | refine q_split rfl rfl ?_ ?_ | refine l_nsplit rfl rfl ?_ ?_ | refine q_nsplit rfl rfl ?_ ?_) <;> intro _ <;> try (exfalso; omega)))
  refine l_st (k_call evs_auto H (rSizesOf_any _ im A c _ hl (H.fact _ mem_auto)) rfl ?_)
  intro v2 w2 hf2 hb2 _
  obtain ⟨A6, c6, hv2, _, _, H1⟩ := H.takeRow hb2 hf2 hM Nat.zero_lt_one (by rw [sizesOf_len]; omega)
  subst hv2
  clear H hf2; have H := H1; clear H1
  have hr6 := rng_row (H.fact (Row (kInt .i64) 1 A6 (sizesOf im)) mem_auto)
  repeat' (first | (apply l_rd; exact rd_go; rfl) | (apply q_rd; exact rd_go; rfl) | refine stp ?_ | refine bk_o rfl ?_ | refine c_true ⟨rfl, rfl⟩ ?_ | refine c_false ⟨rfl, rfl⟩ ?_ | (apply l_rdg; rfl; rfl; rfl; exact rd_go; rfl) | refine l_skip rfl rfl rfl rfl ?_ | (apply q_rdg; rfl; rfl; rfl; exact rd_go; rfl) | refine q_skip rfl rfl rfl rfl ?_ | (refine q_end ?_; clear H; intro _ H) | ((first | refine l_st (z_box H ?_) | refine l_st (s_alloc H rfl ?_)); clear H; intro _ _ _ H) | (refine l_st (t_build0 H rfl ?_); clear H; intro _ _ _ _ H) | (refine l_st (z_sto H ?_); clear H; intro _ H) | ((first | refine c_cond ⟨rfl, rfl⟩ ?_ ?_ | refine c_ncond ⟨rfl, rfl⟩ ?_ ?_ | refine l_split rfl rfl ?_ ?_ | refine q_split rfl rfl ?_ ?_ | refine l_nsplit rfl rfl ?_ ?_ | refine q_nsplit rfl rfl ?_ ?_) <;> intro _ <;> try (exfalso; omega)))
  refine l_st (k_call evs_auto H (rClean_any _ (sizesOf im) A6 c6 _ (H.mu_lt hM) (by rw [sizesOf_len]; omega) (H.fact _ mem_auto)) rfl ?_)
  intro v3 w3 hf3 hb3 _
  obtain ⟨A7, c7, hv3, _, _, H1⟩ := H.takeRow hb3 hf3 hM Nat.zero_lt_two (by rw [cleanBm, List.length_map, sizesOf_len]; omega)
  subst hv3
  clear H hf3; have H := H1; clear H1
  repeat' (first | (apply l_rd; exact rd_go; rfl) | (apply q_rd; exact rd_go; rfl) | refine stp ?_ | refine bk_o rfl ?_ | refine c_true ⟨rfl, rfl⟩ ?_ | refine c_false ⟨rfl, rfl⟩ ?_ | (apply l_rdg; rfl; rfl; rfl; exact rd_go; rfl) | refine l_skip rfl rfl rfl rfl ?_ | (apply q_rdg; rfl; rfl; rfl; exact rd_go; rfl) | refine q_skip rfl rfl rfl rfl ?_ | (refine q_end ?_; clear H; intro _ H) | ((first | refine l_st (z_box H ?_) | refine l_st (s_alloc H rfl ?_)); clear H; intro _ _ _ H) | (refine l_st (t_build0 H rfl ?_); clear H; intro _ _ _ _ H) | (refine l_st (z_sto H ?_); clear H; intro _ H) | ((first | refine c_cond ⟨rfl, rfl⟩ ?_ ?_ | refine c_ncond ⟨rfl, rfl⟩ ?_ ?_ | refine l_split rfl rfl ?_ ?_ | refine q_split rfl rfl ?_ ?_ | refine l_nsplit rfl rfl ?_ ?_ | refine q_nsplit rfl rfl ?_ ?_) <;> intro _ <;> try (exfalso; omega)))
  have hcl : (cleanBm (sizesOf im)).length = im.length := by rw [cleanBm, List.length_map, sizesOf_len]
  refine l_st (k_call evs_auto H (rMark_any _ (cleanBm (sizesOf im)) l A7 B c7 d _ (H.mu_lt hM) (by omega) (fun b hb => ?_) (fun x hx => by rw [hcl]; exact hv x hx) (H.fact _ mem_auto) (H.fact _ mem_auto)) rfl ?_)
  · obtain ⟨n, hn, rfl⟩ := List.mem_map.1 hb
    exact (newBm_rng (hr6 n hn)).2
  intro v4 w4 hf4 hb4 _
  obtain ⟨A8, c8, hv4, s3, s4, H1⟩ := H.takeRow hb4 hf4 hM Nat.zero_lt_two (by
    have : ∀ (l : List Wr) (k : List Bm), (markAll k l).length = k.length := fun l => by
      induction l with
      | nil => intro k; rfl
      | cons x r ih => intro k; show (markAll (markW k x) r).length = _; rw [ih, markW_len]
    rw [this, hcl]; omega)
  subst hv4
  clear H hf4; have H := H1; clear H1
  repeat' (first | (apply l_rd; exact rd_go; rfl) | (apply q_rd; exact rd_go; rfl) | refine stp ?_ | refine bk_o rfl ?_ | refine c_true ⟨rfl, rfl⟩ ?_ | refine c_false ⟨rfl, rfl⟩ ?_ | (apply l_rdg; rfl; rfl; rfl; exact rd_go; rfl) | refine l_skip rfl rfl rfl rfl ?_ | (apply q_rdg; rfl; rfl; rfl; exact rd_go; rfl) | refine q_skip rfl rfl rfl rfl ?_ | (refine q_end ?_; clear H; intro _ H) | ((first | refine l_st (z_box H ?_) | refine l_st (s_alloc H rfl ?_)); clear H; intro _ _ _ H) | (refine l_st (t_build0 H rfl ?_); clear H; intro _ _ _ _ H) | (refine l_st (z_sto H ?_); clear H; intro _ H) | ((first | refine c_cond ⟨rfl, rfl⟩ ?_ ?_ | refine c_ncond ⟨rfl, rfl⟩ ?_ ?_ | refine l_split rfl rfl ?_ ?_ | refine q_split rfl rfl ?_ ?_ | refine l_nsplit rfl rfl ?_ ?_ | refine q_nsplit rfl rfl ?_ ?_) <;> intro _ <;> try (exfalso; omega)))
  exact retc (i := 0) H rfl rfl rfl rfl rfl ⟨A8, c8, A5, c5, rfl, ⟨s3, s4⟩, ⟨s1, s2⟩, (H.fact (Row kBm 2 A8 (markAll (cleanBm (sizesOf im)) l)) mem_auto).mono fun b h => .inl h, (H.fact (Row kVol 1 A5 (applySp im l).1) mem_auto).mono fun b h => .inl h⟩
end Go.Proofs.YtiolpldihoghiaaDoor

namespace Go.Proofs.YtiolpldihoghiaaDoor
open Go.RowKit
set_option linter.unusedVariables false
set_option linter.unusedSimpArgs false
section
variable {P : Program} {N : Nat} {E : List (Nat × Value)} {dst : Option Tmp} {ty : TypeId} {pos : String} {af : Array Edge} {g : Option (Nat × Bool)} {w : World} {x y : Operand} {T u : TypeId}
theorem mk_rep {k : IntKind} : ∀ {n : Nat} {s : List Int}, s.length = n → mk (List.replicate n k) s = s.map (Value.int k)
  | 0, [], _ => rfl
  | n + 1, a :: s, h => by
    have := mk_rep (k := k) (n := n) (s := s) (by simpa using h)
    unfold mk at this ⊢
    simp [List.replicate_succ, this]
theorem eqItems_ints {e : TypeId} {k : IntKind} (hu : P.underlying e = some (.int k)) (dd : Nat) (A B : Array Value) : ∀ (m o : Nat) (xs ys : List Int), xs.length = m → ys.length = m → (A.toList.drop o).take m = xs.map (Value.int k) → (B.toList.drop o).take m = ys.map (Value.int k) →
    (Op.eqItems (dd + 1) e 1 A B (List.range' o m)).run P w = .ok (decide (xs = ys)) w
  | 0, o, [], [], _, _, _, _ => by simp [Op.eqItems]
  | m + 1, o, x :: xs, y :: ys, hx, hy, hA, hB => by
    have ga : A[o]? = some (.int k x) := by
      have := congrArg (·[0]?) hA
      simpa using this
    have gb : B[o]? = some (.int k y) := by
      have := congrArg (·[0]?) hB
      simpa using this
    have ta : (A.toList.drop (o + 1)).take m = xs.map (Value.int k) := by
      have := congrArg (List.drop 1) hA
      simpa [List.drop_take] using this
    have tb : (B.toList.drop (o + 1)).take m = ys.map (Value.int k) := by
      have := congrArg (List.drop 1) hB
      simpa [List.drop_take] using this
    have ih := eqItems_ints hu dd A B m (o + 1) xs ys (by simpa using hx) (by simpa using hy) ta tb
    rw [List.range'_succ]
    simp only [Op.eqItems, Nat.mul_one, Sem.run_bind, run_part (n := 0) hu ga, run_part (n := 0) hu gb, Result.andThen_ok, run_equalIn_int w dd e k k x y hu]
    by_cases e1 : x = y
    · subst e1; simp [ih]
    · simp [e1]
theorem eqArray {n : Nat} {k : IntKind} {e : TypeId} (hu : P.underlying T = some (.array n e)) (he : P.underlying e = some (.int k)) (hi : (P.info? e).isSome = true) (hc : P.cellsOf e = 1) (hg : P.eqGuardType P.depth T = false) : EqT P T (List.replicate n k) := by
  refine ⟨fun xs ys w hx hy => ?_, hg⟩
  rw [List.length_replicate] at hx hy
  obtain ⟨i, hi⟩ := Option.isSome_iff_exists.1 hi
  have h := run_equalIn_array (P := P) (w := w) 9999 (mk (List.replicate n k) xs).toArray (mk (List.replicate n k) ys).toArray hu hi
  refine h.trans ?_
  rw [hc, List.range_eq_range', mk_rep hx, mk_rep hy]
  exact eqItems_ints he 9998 _ _ n 0 xs ys hx hy (by rw [List.toList_toArray, List.drop_zero, List.take_of_length_le (by simp [hx])]) (by rw [List.toList_toArray, List.drop_zero, List.take_of_length_le (by simp [hy])])

variable {ds : List Deferred} {ops : Array Oper} {rest : List Oper} {Q : Exit → Act → World → Prop} {o : Op} {w0 : World} {M : Nat → Prop} {L : List Loc} {O : List Own} {F : List (World → Prop)}
/-- An operation whose guard holds is one without a guard. -/
theorem l_ung {i d' : Nat} {b : Bool} (hg : ((ops[i]?).bind (·.dst)) = some d') (hN : Nat.blt d' N = true) (hv : get E d' = .bool b) (h : WL P ops Q (⟨dst, o, ty, pos, af, none⟩ :: rest) N E ds w) :
    WL P ops Q (⟨dst, o, ty, pos, af, some (i, b)⟩ :: rest) N E ds w := by
  refine ⟨?_⟩
  have h0 := h.out
  unfold wpList at h0 ⊢
  have e1 : Region.wanted (⟨dst, o, ty, pos, af, none⟩ : Oper) (yielded ops (fr N E ds).tmps) = true := rfl
  rw [if_pos e1] at h0
  rw [if_pos (by rw [wanted_some hg hN hv]; simp)]
  exact h0
/-- One element, sealed. -/
theorem Hp.seal1 {α : Type} {dd : Rp α} {e sz c : Nat} {A : Option Addr} {x : α} {cs : List Value} (H : Hp w0 M w L (⟨.slice A 1 c, e, sz, 1, cs⟩ :: O) F) (hx : Stab w (Mu M L (⟨.slice A 1 c, e, sz, 1, cs⟩ :: O)) (fun w' => dd w' x cs)) (hl : cs.length = sz) (hM : ∀ b, M b → b < w0.heap.size) (hsz : 0 < sz) :
    1 ≤ c ∧ c ≤ 9223372036854775807 ∧ Hp w0 M w L O (Row dd sz A [x] :: F) := by
  have hc : Stab w (Mu M L (⟨.slice A 1 c, e, sz, 1, cs⟩ :: O)) (Chunks dd sz [x] cs) := fun w' hs hw => (Chunks.nil (d := dd) (sz := sz) (w := w')).snoc (hx w' hs hw) hl
  obtain ⟨h1, h2, h3⟩ := (H.add hc).sealR (dd := dd) (xs := [x]) (List.mem_cons_self ..) hM hsz rfl (by simp)
  exact ⟨h1, h2, h3.weak (List.Sublist.refl _) (List.Sublist.refl _) (fun f hf => by
    rcases List.mem_cons.1 hf with rfl | hf
    · exact List.mem_cons_self ..
    · exact List.mem_cons_of_mem _ (List.mem_cons_of_mem _ hf))⟩
theorem kSl_of {α : Type} {dd : Rp α} {sz c : Nat} {A : Option Addr} {l : List α} (h1 : l.length ≤ c) (h2 : c ≤ 9223372036854775807) (h : Stab w M (Row dd sz A l)) : Stab w M (fun w' => kSl sz dd w' l [.slice A l.length c]) := h.imp fun w' h => ⟨A, c, rfl, h1, h2, h⟩
/-- A new row that is only read. -/
theorem Fresh.row {α : Type} {dd : Rp α} {e sz : Nat} {xs : List α} {v : Value} {w' : World} (hf : Fresh dd e sz M w xs v w') (hM : ∀ b, M b → b < w.heap.size) (hsz : 0 < sz) (hbd : xs.length ≤ 140737488355328) :
    ∃ A c, v = .slice A xs.length c ∧ xs.length ≤ c ∧ c ≤ 9223372036854775807 ∧ Stab w' M (Row dd sz A xs) := by
  obtain ⟨cs, ho, hc⟩ := hf
  exact own_row ho hc hsz (fun b hb => .inr hb) rfl hbd (fun b hb => .inl hb) fun b hb hm => by
    have := (ho.lt b hb).1
    have := hM b hm
    omega
end
end Go.Proofs.YtiolpldihoghiaaDoor

namespace Go.Proofs.YtiolpldihoghiaaDoor
open Go.RowKit
set_option linter.unusedVariables false
set_option linter.unusedSimpArgs false
instance (k : IntKind) (n : Int) : Decidable (rng k n) := by
  unfold rng
  split <;> infer_instance
instance : EqT Tryd.prog 71 (List.replicate 8 .u8) := eqArray (e := 5) (by kernel_rfl) (by kernel_rfl) (by kernel_rfl) (by kernel_rfl) (by kernel_rfl)
section
variable {N : Nat} {E : List (Nat × Value)} {dst : Option Tmp} {ty : TypeId} {pos : String} {af : Array Edge} {g : Option (Nat × Bool)} {w : World} {x y : Operand} {u : TypeId}
theorem rd_eq_sec {s r : Sec} (hx : Ev N E x (.agg (s.map (Value.int .u8)).toArray)) (hy : Ev N E y (.agg (r.map (Value.int .u8)).toArray)) (hs : s.length = 8) (hr : r.length = 8) : Rd Tryd.prog ⟨dst, .binOp .eql 71 x y u, ty, pos, af, g⟩ N E w (.bool (decide (s = r))) := by
  rw [← mk_rep (n := 8) hs] at hx
  rw [← mk_rep (n := 8) hr] at hy
  exact rd_eq_ag hx hy (by simpa using hs) (by simpa using hr)
theorem rd_eq_sec1 {s : Sec} (hx : Ev N E x (.agg (s.map (Value.int .u8)).toArray)) (hy : Ev N E y (.agg (s.map (Value.int .u8)).toArray)) (hs : s.length = 8) : Rd Tryd.prog ⟨dst, .binOp .eql 71 x y u, ty, pos, af, g⟩ N E w (.bool true) := by
  have := rd_eq_sec (dst := dst) (ty := ty) (pos := pos) (af := af) (g := g) (w := w) (u := u) hx hy hs hs
  rwa [decide_eq_true rfl] at this
theorem rd_ne_sec {s r : Sec} (hx : Ev N E x (.agg (s.map (Value.int .u8)).toArray)) (hy : Ev N E y (.agg (r.map (Value.int .u8)).toArray)) (hs : s.length = 8) (hr : r.length = 8) : Rd Tryd.prog ⟨dst, .binOp .neq 71 x y u, ty, pos, af, g⟩ N E w (.bool (decide (s ≠ r))) := by
  rw [← mk_rep (n := 8) hs] at hx
  rw [← mk_rep (n := 8) hr] at hy
  exact rd_ne_ag hx hy (by simpa using hs) (by simpa using hr)
end
end Go.Proofs.YtiolpldihoghiaaDoor

namespace Go.Proofs.YtiolpldihoghiaaDoor
open Go.RowKit
set_option linter.unusedVariables false
set_option linter.unusedSimpArgs false
set_option maxHeartbeats 4000000
-- @UNDEF
def prevWr (l : List Wr) (i : Nat) : Option Wr := if i = 0 then none else l[i - 1]?
theorem wrsGo_end {sizes : List Int} {p : Option Wr} {l : List Wr} : wrsGo sizes p (l.drop l.length) = 0 := by rw [List.drop_length]; cases p <;> rfl
theorem wrsGo_bad {sizes : List Int} {p : Option Wr} {l : List Wr} {i : Nat} (h : i < l.length) (hf : fitsErr sizes l[i] ≠ 0) : wrsGo sizes p (l.drop i) = fitsErr sizes l[i] := by
  rw [List.drop_eq_getElem_cons h]
  cases p <;> simp only [wrsGo, if_pos hf]
theorem wrsGo_first {sizes : List Int} {l : List Wr} {i : Nat} (h : i < l.length) (hf : fitsErr sizes l[i] = 0) : wrsGo sizes none (l.drop i) = wrsGo sizes (some l[i]) (l.drop (i + 1)) := by
  rw [List.drop_eq_getElem_cons h]
  simp only [wrsGo, hf]; simp
theorem wrsGo_no {sizes : List Int} {y : Wr} {l : List Wr} {i : Nat} (h : i < l.length) (hf : fitsErr sizes l[i] = 0) (ho : l[i].vol < y.vol ∨ l[i].vol = y.vol ∧ l[i].start ≤ y.start + y.data.length) : wrsGo sizes (some y) (l.drop i) = 3 := by
  rw [List.drop_eq_getElem_cons h]
  simp only [wrsGo, if_pos ho, hf]; simp
theorem wrsGo_yes {sizes : List Int} {y : Wr} {l : List Wr} {i : Nat} (h : i < l.length) (hf : fitsErr sizes l[i] = 0) (ho : ¬ (l[i].vol < y.vol ∨ l[i].vol = y.vol ∧ l[i].start ≤ y.start + y.data.length)) : wrsGo sizes (some y) (l.drop i) = wrsGo sizes (some l[i]) (l.drop (i + 1)) := by
  rw [List.drop_eq_getElem_cons h]
  simp only [wrsGo, if_neg ho, hf]; simp
theorem prevWr_succ {l : List Wr} {i : Nat} (h : i < l.length) : prevWr l (i + 1) = some l[i] := by
  rw [prevWr, if_neg (by omega), Nat.add_sub_cancel, List.getElem?_eq_getElem h]
/-- The check of an order, over any check of single writes. -/
theorem check_any {k : FuncId} [hK : FnT Tryd.prog k] (sizes : List Int) (hz : sizesErr sizes = 0) (cap : List Value) (Pf : World → Prop)
    (hk : ∀ (M' : Nat → Prop) (x : Wr) (A : Option Addr) (c : Nat) (w' : World), rng .i64 x.vol → rng .i64 x.start → x.data.length ≤ 140737488355328 → Stab w' M' Pf → Ret Tryd.prog k ([.agg [.int .i64 x.vol, .int .i64 x.start, .slice A x.data.length c].toArray] ++ cap) w' fun v _ => v = .int .i64 (fitsErr sizes x))
    (M : Nat → Prop) (l : List Wr) (A : Option Addr) (c : Nat) (w : World) (hF : Stab w M (Row kWr 3 A l)) (hP : Stab w M Pf) :
    Ret Tryd.prog 142 [.slice A l.length c, .func (.func k) #[] cap.toArray] w fun v _ => v = .int .i64 (wrsGo sizes none l) := by
  have hll := hF.now.len
  refine enter (M := M) (F := [Row kWr 3 A l, Pf]) Tryd.func142 rfl rfl rfl (by simpa using ⟨hF, hP⟩) fun H => ?_
  repeat' (first | (apply l_rd; exact rd_go; rfl) | (apply q_rd; exact rd_go; rfl) | refine stp ?_ | refine bk_o rfl ?_ | refine c_true ⟨rfl, rfl⟩ ?_ | refine c_false ⟨rfl, rfl⟩ ?_ | (apply l_rdg; rfl; rfl; rfl; exact rd_go; rfl) | refine l_skip rfl rfl rfl rfl ?_ | (apply q_rdg; rfl; rfl; rfl; exact rd_go; rfl) | refine q_skip rfl rfl rfl rfl ?_ | refine c_draw H (by kernel_rfl) ?_ | (refine q_end ?_; clear H; intro _ H) | ((first | refine l_st (z_box H ?_) | refine l_st (s_alloc H rfl ?_)); clear H; intro _ _ _ H) | (refine l_st (t_build0 H rfl ?_); clear H; intro _ _ _ _ H) | (refine l_st (z_sto H ?_); clear H; intro _ H) | ((first | refine c_cond ⟨rfl, rfl⟩ ?_ ?_ | refine c_ncond ⟨rfl, rfl⟩ ?_ ?_ | refine l_split rfl rfl ?_ ?_ | refine q_split rfl rfl ?_ ?_ | refine l_nsplit rfl rfl ?_ ?_ | refine q_nsplit rfl rfl ?_ ?_) <;> intro _ <;> try (exfalso; omega)) | refine l_skipu rfl rfl rfl rfl ?_ | refine q_skipu rfl rfl rfl rfl ?_)
  refine c_loopk [11] [0, 1, 9, 10] (fun n vs w' => ∃ (i : Nat), vs = [.int .i64 i] ∧ i ≤ l.length ∧ n = l.length - i ∧ wrsGo sizes (prevWr l i) (l.drop i) = wrsGo sizes none l ∧ (∀ (h : 0 < i) (h2 : i - 1 < l.length), fitsErr sizes l[i - 1] = 0) ∧
      Hp w M w' [] [] [Row kWr 3 A l, Pf]) _ [_, _, _, _] rfl ⟨0, rfl, Nat.zero_le _, rfl, rfl, fun h => by omega, H⟩ ?_
  clear H
  rintro n _ E0 w2 ⟨i, rfl, hi, rfl, hg, hfp, H⟩
  by_cases hi' : i < l.length
  · obtain ⟨A4, c4, r1, r2, q1, q2, H1⟩ := H.openWr (A := A) (xs := l) mem_auto hi'
    have hdl := (H1.fact (Row kSec 8 A4 (l[i]'hi').data) mem_auto).now.len
    clear H; have H := H1; clear H1
    by_cases hi0 : i = 0
    · have hp0 : prevWr l i = none := by rw [prevWr, if_pos hi0]
      rw [hp0] at hg
      repeat' (first | (apply l_rd; exact rd_go; rfl) | (apply q_rd; exact rd_go; rfl) | refine stp ?_ | refine bk_o rfl ?_ | refine c_true ⟨rfl, rfl⟩ ?_ | refine c_false ⟨rfl, rfl⟩ ?_ | (apply l_rdg; rfl; rfl; rfl; exact rd_go; rfl) | refine l_skip rfl rfl rfl rfl ?_ | (apply q_rdg; rfl; rfl; rfl; exact rd_go; rfl) | refine q_skip rfl rfl rfl rfl ?_ | refine c_draw H (by kernel_rfl) ?_ | (refine q_end ?_; clear H; intro _ H) | ((first | refine l_st (z_box H ?_) | refine l_st (s_alloc H rfl ?_)); clear H; intro _ _ _ H) | (refine l_st (t_build0 H rfl ?_); clear H; intro _ _ _ _ H) | (refine l_st (z_sto H ?_); clear H; intro _ H) | ((first | refine c_cond ⟨rfl, rfl⟩ ?_ ?_ | refine c_ncond ⟨rfl, rfl⟩ ?_ ?_ | refine l_split rfl rfl ?_ ?_ | refine q_split rfl rfl ?_ ?_ | refine l_nsplit rfl rfl ?_ ?_ | refine q_nsplit rfl rfl ?_ ?_) <;> intro _ <;> try (exfalso; omega)) | refine l_skipu rfl rfl rfl rfl ?_ | refine q_skipu rfl rfl rfl rfl ?_)
      refine l_st (k_callv evs_auto (cap := cap) ⟨rfl, rfl⟩ H (hk _ (l[i]'hi') A4 c4 _ r1 r2 hdl (H.fact Pf mem_auto)) rfl ?_)
      clear H; rintro _ w3 rfl _ H
      repeat' (first | (apply l_rd; exact rd_go; rfl) | (apply q_rd; exact rd_go; rfl) | refine stp ?_ | refine bk_o rfl ?_ | refine c_true ⟨rfl, rfl⟩ ?_ | refine c_false ⟨rfl, rfl⟩ ?_ | (apply l_rdg; rfl; rfl; rfl; exact rd_go; rfl) | refine l_skip rfl rfl rfl rfl ?_ | (apply q_rdg; rfl; rfl; rfl; exact rd_go; rfl) | refine q_skip rfl rfl rfl rfl ?_ | refine c_draw H (by kernel_rfl) ?_ | (refine q_end ?_; clear H; intro _ H) | ((first | refine l_st (z_box H ?_) | refine l_st (s_alloc H rfl ?_)); clear H; intro _ _ _ H) | (refine l_st (t_build0 H rfl ?_); clear H; intro _ _ _ _ H) | (refine l_st (z_sto H ?_); clear H; intro _ H) | ((first | refine c_cond ⟨rfl, rfl⟩ ?_ ?_ | refine c_ncond ⟨rfl, rfl⟩ ?_ ?_ | refine l_split rfl rfl ?_ ?_ | refine q_split rfl rfl ?_ ?_ | refine l_nsplit rfl rfl ?_ ?_ | refine q_nsplit rfl rfl ?_ ?_) <;> intro _ <;> try (exfalso; omega)) | refine l_skipu rfl rfl rfl rfl ?_ | refine q_skipu rfl rfl rfl rfl ?_)
      · have hf : fitsErr sizes l[i] ≠ 0 := by assumption
        (refine ret1 H rfl rfl rfl ?_; refine iv ?_); rw [← hg, wrsGo_bad hi' hf]
      · have hf : ¬ fitsErr sizes l[i] ≠ 0 := by assumption
        exact lk_n rfl (n' := l.length - (i + 1)) (by omega) ⟨i + 1, rfl, by omega, rfl, by rw [prevWr_succ hi', ← hg, wrsGo_first hi' (by omega)], fun _ _ => by simp only [Nat.add_sub_cancel]; omega, H.weak (List.nil_sublist _) (List.Sublist.refl _) (by simp)⟩
    · have hpi : ((i : Int) - 1).toNat < l.length := by omega
      have hpe : ((i : Int) - 1).toNat = i - 1 := by omega
      obtain ⟨y, hy⟩ : ∃ y, l[((i : Int) - 1).toNat]'hpi = y := ⟨_, rfl⟩
      have hp1 : prevWr l i = some y := by rw [prevWr, if_neg hi0, List.getElem?_eq_getElem (by omega), ← hy]; simp only [hpe]
      have hfy : fitsErr sizes y = 0 := by rw [← hy]; simp only [hpe]; exact hfp (by omega) (by omega)
      obtain ⟨b1, b2, b3, b4, b5⟩ := fits_in hfy hz
      rw [hp1] at hg
      obtain ⟨A6, c6, r3, r4, q3, q4, H1⟩ := H.openWr (A := A) (xs := l) (i := ((i : Int) - 1).toNat) mem_auto hpi
      rw [hy] at H1 r3 r4 q3
      clear H; have H := H1; clear H1
      repeat' (first | (apply l_rd; exact rd_go; rfl) | (apply q_rd; exact rd_go; rfl) | refine stp ?_ | refine bk_o rfl ?_ | refine c_true ⟨rfl, rfl⟩ ?_ | refine c_false ⟨rfl, rfl⟩ ?_ | (apply l_rdg; rfl; rfl; rfl; exact rd_go; rfl) | refine l_skip rfl rfl rfl rfl ?_ | (apply q_rdg; rfl; rfl; rfl; exact rd_go; rfl) | refine q_skip rfl rfl rfl rfl ?_ | refine c_draw H (by kernel_rfl) ?_ | (refine q_end ?_; clear H; intro _ H) | ((first | refine l_st (z_box H ?_) | refine l_st (s_alloc H rfl ?_)); clear H; intro _ _ _ H) | (refine l_st (t_build0 H rfl ?_); clear H; intro _ _ _ _ H) | (refine l_st (z_sto H ?_); clear H; intro _ H) | ((first | refine c_cond ⟨rfl, rfl⟩ ?_ ?_ | refine c_ncond ⟨rfl, rfl⟩ ?_ ?_ | refine l_split rfl rfl ?_ ?_ | refine q_split rfl rfl ?_ ?_ | refine l_nsplit rfl rfl ?_ ?_ | refine q_nsplit rfl rfl ?_ ?_) <;> intro _ <;> try (exfalso; omega)) | refine l_skipu rfl rfl rfl rfl ?_ | refine q_skipu rfl rfl rfl rfl ?_)
      refine l_st (k_callv evs_auto (cap := cap) ⟨rfl, rfl⟩ H (hk _ (l[i]'hi') A4 c4 _ r1 r2 hdl (H.fact Pf mem_auto)) rfl ?_)
      clear H; rintro _ w3 rfl _ H
      repeat' (first | (apply l_rd; exact rd_go; rfl) | (apply q_rd; exact rd_go; rfl) | refine stp ?_ | refine bk_o rfl ?_ | refine c_true ⟨rfl, rfl⟩ ?_ | refine c_false ⟨rfl, rfl⟩ ?_ | (apply l_rdg; rfl; rfl; rfl; exact rd_go; rfl) | refine l_skip rfl rfl rfl rfl ?_ | (apply q_rdg; rfl; rfl; rfl; exact rd_go; rfl) | refine q_skip rfl rfl rfl rfl ?_ | refine c_draw H (by kernel_rfl) ?_ | (refine q_end ?_; clear H; intro _ H) | ((first | refine l_st (z_box H ?_) | refine l_st (s_alloc H rfl ?_)); clear H; intro _ _ _ H) | (refine l_st (t_build0 H rfl ?_); clear H; intro _ _ _ _ H) | (refine l_st (z_sto H ?_); clear H; intro _ H) | ((first | refine c_cond ⟨rfl, rfl⟩ ?_ ?_ | refine c_ncond ⟨rfl, rfl⟩ ?_ ?_ | refine l_split rfl rfl ?_ ?_ | refine q_split rfl rfl ?_ ?_ | refine l_nsplit rfl rfl ?_ ?_ | refine q_nsplit rfl rfl ?_ ?_) <;> intro _ <;> try (exfalso; omega)) | refine l_skipu rfl rfl rfl rfl ?_ | refine q_skipu rfl rfl rfl rfl ?_)
      all_goals first
      | (have hf : fitsErr sizes l[i] ≠ 0 := by assumption
         (refine ret1 H rfl rfl rfl ?_; refine iv ?_); rw [← hg, wrsGo_bad hi' hf])
      | (have hf : ¬ fitsErr sizes l[i] ≠ 0 := by assumption
         first
         | ((refine ret1 H rfl rfl rfl ?_; refine iv ?_); rw [← hg, wrsGo_no hi' (by omega) (by omega)])
         | exact lk_n rfl (n' := l.length - (i + 1)) (by omega) ⟨i + 1, rfl, by omega, rfl, by rw [prevWr_succ hi', ← hg, wrsGo_yes hi' (by omega) (by omega)], fun _ _ => by simp only [Nat.add_sub_cancel]; omega, H.weak (List.nil_sublist _) (List.Sublist.refl _) (by simp)⟩)
  · repeat' (first | (apply l_rd; exact rd_go; rfl) | (apply q_rd; exact rd_go; rfl) | refine stp ?_ | refine bk_o rfl ?_ | refine c_true ⟨rfl, rfl⟩ ?_ | refine c_false ⟨rfl, rfl⟩ ?_ | (apply l_rdg; rfl; rfl; rfl; exact rd_go; rfl) | refine l_skip rfl rfl rfl rfl ?_ | (apply q_rdg; rfl; rfl; rfl; exact rd_go; rfl) | refine q_skip rfl rfl rfl rfl ?_ | refine c_draw H (by kernel_rfl) ?_ | (refine q_end ?_; clear H; intro _ H) | ((first | refine l_st (z_box H ?_) | refine l_st (s_alloc H rfl ?_)); clear H; intro _ _ _ H) | (refine l_st (t_build0 H rfl ?_); clear H; intro _ _ _ _ H) | (refine l_st (z_sto H ?_); clear H; intro _ H) | ((first | refine c_cond ⟨rfl, rfl⟩ ?_ ?_ | refine c_ncond ⟨rfl, rfl⟩ ?_ ?_ | refine l_split rfl rfl ?_ ?_ | refine q_split rfl rfl ?_ ?_ | refine l_nsplit rfl rfl ?_ ?_ | refine q_nsplit rfl rfl ?_ ?_) <;> intro _ <;> try (exfalso; omega)) | refine l_skipu rfl rfl rfl rfl ?_ | refine q_skipu rfl rfl rfl rfl ?_)
    have hi2 : i = l.length := by omega
    subst hi2
    (refine ret1 H rfl rfl rfl ?_; refine iv ?_); rw [← hg, wrsGo_end]
end Go.Proofs.YtiolpldihoghiaaDoor

namespace Go.Proofs.YtiolpldihoghiaaDoor
open Go.RowKit
set_option linter.unusedVariables false
set_option linter.unusedSimpArgs false
set_option maxHeartbeats 4000000
-- @UNDEF
theorem ca_Wr4 {k : FuncId} {vs : List Value} {w1 : World} {v : Value} (h : Ret Tryd.prog k vs w1 (fun u _ => u = v) := by first | exact rSizes_any _ _ _ _ _ (H.fact _ mem_auto) | exact in103_any _ _ _ _ | exact containsFunc_any _ _ (by intro n w hn; exact posBad_any n w) _ _ _ _ (H.fact _ mem_auto)) : Ret Tryd.prog k vs w1 (fun u _ => u = v) := h
theorem chk1_any (im : List (List Sec)) (b5 : Nat) (A : Option Addr) (c : Nat) (hil : im.length ≤ 1000000) (hz : imErr im = 0) (M : Nat → Prop) (x : Wr) (B : Option Addr) (d : Nat) (w : World) (h1 : rng .i64 x.vol) (h2 : rng .i64 x.start) (hl : x.data.length ≤ 140737488355328)
    (hP : Stab w M fun w => Cel (some ⟨b5, 0, none⟩) 0 1 [.slice A im.length c] w ∧ Row kVol 1 A im w) :
    Ret Tryd.prog 143 ([.agg [.int .i64 x.vol, .int .i64 x.start, .slice B x.data.length d].toArray] ++ [lp b5 0]) w fun v _ => v = .int .i64 (fitsErr (sizesOf im) x) := by
  refine enter (M := M) (F := [Cel (some ⟨b5, 0, none⟩) 0 1 [.slice A im.length c], Row kVol 1 A im]) Tryd.func143 rfl rfl rfl (by simpa using ⟨hP.imp fun _ h => h.1, hP.imp fun _ h => h.2⟩) fun H => ?_
  repeat' (first | (apply l_rd; exact rd_go; rfl) | (apply q_rd; exact rd_go; rfl) | refine stp ?_ | refine bk_o rfl ?_ | refine c_true ⟨rfl, rfl⟩ ?_ | refine c_false ⟨rfl, rfl⟩ ?_ | (apply l_rdg; rfl; rfl; rfl; exact rd_go; rfl) | refine l_skip rfl rfl rfl rfl ?_ | (apply q_rdg; rfl; rfl; rfl; exact rd_go; rfl) | refine q_skip rfl rfl rfl rfl ?_ | refine c_draw H (by kernel_rfl) ?_ | (refine q_end ?_; clear H; intro _ H) | ((first | refine l_st (z_box H ?_) | refine l_st (s_alloc H rfl ?_)); clear H; intro _ _ _ H) | (refine l_st (t_build0 H rfl ?_); clear H; intro _ _ _ _ H) | (refine l_st (z_sto H ?_); clear H; intro _ H) | ((first | refine c_cond ⟨rfl, rfl⟩ ?_ ?_ | refine c_ncond ⟨rfl, rfl⟩ ?_ ?_ | refine l_split rfl rfl ?_ ?_ | refine q_split rfl rfl ?_ ?_ | refine l_nsplit rfl rfl ?_ ?_ | refine q_nsplit rfl rfl ?_ ?_) <;> intro _ <;> try (exfalso; omega)) | (refine l_st (k_call1 evs_auto H ca_Wr4 rfl ?_); clear H; intro _ _ H) | (refine l_st (k_callg1 evs_auto rfl rfl rfl H ca_Wr4 rfl ?_); clear H; intro _ _ H) | refine kq_call1 evs_auto H (fun _ H => ca_Wr4) rfl ?_ | refine kq_callg1 evs_auto rfl rfl rfl H (fun _ H => ca_Wr4) rfl ?_ | refine l_skipu rfl rfl rfl rfl ?_ | refine q_skipu rfl rfl rfl rfl ?_)
  apply l_rd; exact rd_load_cel (A := some ⟨b5, 0, none⟩) (i := 0) (sz := 1) (j := 0) (cs := [_]) H ⟨rfl, rfl⟩ mem_auto rfl; rfl
  repeat' (first | (apply l_rd; exact rd_go; rfl) | (apply q_rd; exact rd_go; rfl) | refine stp ?_ | refine bk_o rfl ?_ | refine c_true ⟨rfl, rfl⟩ ?_ | refine c_false ⟨rfl, rfl⟩ ?_ | (apply l_rdg; rfl; rfl; rfl; exact rd_go; rfl) | refine l_skip rfl rfl rfl rfl ?_ | (apply q_rdg; rfl; rfl; rfl; exact rd_go; rfl) | refine q_skip rfl rfl rfl rfl ?_ | refine c_draw H (by kernel_rfl) ?_ | (refine q_end ?_; clear H; intro _ H) | ((first | refine l_st (z_box H ?_) | refine l_st (s_alloc H rfl ?_)); clear H; intro _ _ _ H) | (refine l_st (t_build0 H rfl ?_); clear H; intro _ _ _ _ H) | (refine l_st (z_sto H ?_); clear H; intro _ H) | ((first | refine c_cond ⟨rfl, rfl⟩ ?_ ?_ | refine c_ncond ⟨rfl, rfl⟩ ?_ ?_ | refine l_split rfl rfl ?_ ?_ | refine q_split rfl rfl ?_ ?_ | refine l_nsplit rfl rfl ?_ ?_ | refine q_nsplit rfl rfl ?_ ?_) <;> intro _ <;> try (exfalso; omega)) | (refine l_st (k_call1 evs_auto H ca_Wr4 rfl ?_); clear H; intro _ _ H) | (refine l_st (k_callg1 evs_auto rfl rfl rfl H ca_Wr4 rfl ?_); clear H; intro _ _ H) | refine kq_call1 evs_auto H (fun _ H => ca_Wr4) rfl ?_ | refine kq_callg1 evs_auto rfl rfl rfl H (fun _ H => ca_Wr4) rfl ?_ | refine l_skipu rfl rfl rfl rfl ?_ | refine q_skipu rfl rfl rfl rfl ?_)
  refine l_st (k_call1 evs_auto H (fitsIm_any _ im x A B c d _ h1 h2 hl hil (H.fact _ mem_auto)) rfl ?_)
  clear H; intro _ _ H
  rw [if_neg (by omega)]
  repeat' (first | (apply l_rd; exact rd_go; rfl) | (apply q_rd; exact rd_go; rfl) | refine stp ?_ | refine bk_o rfl ?_ | refine c_true ⟨rfl, rfl⟩ ?_ | refine c_false ⟨rfl, rfl⟩ ?_ | (apply l_rdg; rfl; rfl; rfl; exact rd_go; rfl) | refine l_skip rfl rfl rfl rfl ?_ | (apply q_rdg; rfl; rfl; rfl; exact rd_go; rfl) | refine q_skip rfl rfl rfl rfl ?_ | refine c_draw H (by kernel_rfl) ?_ | (refine q_end ?_; clear H; intro _ H) | ((first | refine l_st (z_box H ?_) | refine l_st (s_alloc H rfl ?_)); clear H; intro _ _ _ H) | (refine l_st (t_build0 H rfl ?_); clear H; intro _ _ _ _ H) | (refine l_st (z_sto H ?_); clear H; intro _ H) | ((first | refine c_cond ⟨rfl, rfl⟩ ?_ ?_ | refine c_ncond ⟨rfl, rfl⟩ ?_ ?_ | refine l_split rfl rfl ?_ ?_ | refine q_split rfl rfl ?_ ?_ | refine l_nsplit rfl rfl ?_ ?_ | refine q_nsplit rfl rfl ?_ ?_) <;> intro _ <;> try (exfalso; omega)) | (refine l_st (k_call1 evs_auto H ca_Wr4 rfl ?_); clear H; intro _ _ H) | (refine l_st (k_callg1 evs_auto rfl rfl rfl H ca_Wr4 rfl ?_); clear H; intro _ _ H) | refine kq_call1 evs_auto H (fun _ H => ca_Wr4) rfl ?_ | refine kq_callg1 evs_auto rfl rfl rfl H (fun _ H => ca_Wr4) rfl ?_ | refine l_skipu rfl rfl rfl rfl ?_ | refine q_skipu rfl rfl rfl rfl ?_)
  (refine ret1 H rfl rfl rfl ?_; refine iv ?_); rfl
theorem chkAll_any {w0 w : World} {M : Nat → Prop} {L : List Loc} {O : List Own} {F : List (World → Prop)} {b5 : Nat} {t : TypeId} {im : List (List Sec)} {A : Option Addr} {c : Nat} (H : Hp w0 M w (⟨b5, [.slice A im.length c], t⟩ :: L) O F) (hm : Row kVol 1 A im ∈ F)
    (hil : im.length ≤ 1000000) (hz : imErr im = 0) (l : List Wr) (B : Option Addr) (d : Nat) (hl : Row kWr 3 B l ∈ F) :
    Ret Tryd.prog 142 [.slice B l.length d, .func (.func 143) #[] [lp b5 0].toArray] w fun v _ => v = .int .i64 (wrsGo (sizesOf im) none l) := by
  have hloc := (H.loc _ (List.mem_cons_self ..)).2
  have hP := (H.fact _ hm).none
  refine check_any (k := 143) (sizesOf im) hz [lp b5 0] (fun w => Cel (some ⟨b5, 0, none⟩) 0 1 [.slice A im.length c] w ∧ Row kVol 1 A im w)
      (fun M' x A1 c1 w' r1 r2 r3 hp => chk1_any im b5 A c hil hz M' x A1 c1 w' r1 r2 r3 hp) (fun _ => False) l B d _ (H.fact _ hl).none ?_
  intro w' hs hw
  refine ⟨⟨_, rfl, fun j u hu => ?_⟩, hP w' hs hw⟩
  rw [Nat.zero_mul, Nat.zero_add, add_zero_, Nat.zero_add, cell_of_row w' _ j _ _ _ ((hw _ (H.lt (List.mem_cons_self ..)) (fun h => h)).trans hloc)]
  simpa using hu
theorem coCheck_any (M : Nat → Prop) (l : List Wr) (sizes : List Int) (A B : Option Addr) (c d : Nat) (w : World) (hM : ∀ b, M b → b < w.heap.size) (hF : Stab w M (Row kWr 3 A l)) (hF' : Stab w M (Row (kInt .i64) 1 B sizes)) :
    Ret Tryd.prog 105 [.slice A l.length c, .slice B sizes.length d] w fun v _ => v = .int .i64 (wrsErr l sizes) := by
  refine enter (M := M) (F := [Row kWr 3 A l, Row (kInt .i64) 1 B sizes]) Tryd.func105 rfl rfl rfl (by simpa using ⟨hF, hF'⟩) fun H => ?_
  repeat' (first | (apply l_rd; exact rd_go; rfl) | (apply q_rd; exact rd_go; rfl) | refine stp ?_ | refine bk_o rfl ?_ | refine c_true ⟨rfl, rfl⟩ ?_ | refine c_false ⟨rfl, rfl⟩ ?_ | (apply l_rdg; rfl; rfl; rfl; exact rd_go; rfl) | refine l_skip rfl rfl rfl rfl ?_ | (apply q_rdg; rfl; rfl; rfl; exact rd_go; rfl) | refine q_skip rfl rfl rfl rfl ?_ | refine c_draw H (by kernel_rfl) ?_ | (refine q_end ?_; clear H; intro _ H) | ((first | refine l_st (z_box H ?_) | refine l_st (s_alloc H rfl ?_)); clear H; intro _ _ _ H) | (refine l_st (t_build0 H rfl ?_); clear H; intro _ _ _ _ H) | (refine l_st (z_sto H ?_); clear H; intro _ H) | ((first | refine c_cond ⟨rfl, rfl⟩ ?_ ?_ | refine c_ncond ⟨rfl, rfl⟩ ?_ ?_ | refine l_split rfl rfl ?_ ?_ | refine q_split rfl rfl ?_ ?_ | refine l_nsplit rfl rfl ?_ ?_ | refine q_nsplit rfl rfl ?_ ?_) <;> intro _ <;> try (exfalso; omega)) | (refine l_st (k_call1 evs_auto H ca_Wr4 rfl ?_); clear H; intro _ _ H) | (refine l_st (k_callg1 evs_auto rfl rfl rfl H ca_Wr4 rfl ?_); clear H; intro _ _ H) | refine kq_call1 evs_auto H (fun _ H => ca_Wr4) rfl ?_ | refine kq_callg1 evs_auto rfl rfl rfl H (fun _ H => ca_Wr4) rfl ?_ | refine l_skipu rfl rfl rfl rfl ?_ | refine q_skipu rfl rfl rfl rfl ?_)
  refine l_st (k_call evs_auto H (newIm_any _ sizes B d _ (H.mu_lt hM) (H.fact _ mem_auto)) rfl ?_)
  rintro _ w1 ⟨vs, rfl, hf⟩ hb1 _
  obtain ⟨A9, c9, cs9, rfl, _, _, H9⟩ := H.take' hb1 hf
  have hnl : (newIm sizes).length ≤ 1000000 := by
    unfold newIm; split
    · rename_i h; have := sizesErr_zero h; simp [zIm]; omega
    · simp
  obtain ⟨s3, s4, H10⟩ := H9.sealR (dd := kSl 8 kSec) (xs := newIm sizes) mem_auto hM Nat.zero_lt_one rfl (by omega)
  clear H H9 hf; have H := H10; clear H10
  repeat' (first | (apply l_rd; exact rd_go; rfl) | (apply q_rd; exact rd_go; rfl) | refine stp ?_ | refine bk_o rfl ?_ | refine c_true ⟨rfl, rfl⟩ ?_ | refine c_false ⟨rfl, rfl⟩ ?_ | (apply l_rdg; rfl; rfl; rfl; exact rd_go; rfl) | refine l_skip rfl rfl rfl rfl ?_ | (apply q_rdg; rfl; rfl; rfl; exact rd_go; rfl) | refine q_skip rfl rfl rfl rfl ?_ | refine c_draw H (by kernel_rfl) ?_ | (refine q_end ?_; clear H; intro _ H) | ((first | refine l_st (z_box H ?_) | refine l_st (s_alloc H rfl ?_)); clear H; intro _ _ _ H) | (refine l_st (t_build0 H rfl ?_); clear H; intro _ _ _ _ H) | (refine l_st (z_sto H ?_); clear H; intro _ H) | ((first | refine c_cond ⟨rfl, rfl⟩ ?_ ?_ | refine c_ncond ⟨rfl, rfl⟩ ?_ ?_ | refine l_split rfl rfl ?_ ?_ | refine q_split rfl rfl ?_ ?_ | refine l_nsplit rfl rfl ?_ ?_ | refine q_nsplit rfl rfl ?_ ?_) <;> intro _ <;> try (exfalso; omega)) | (refine l_st (k_call1 evs_auto H ca_Wr4 rfl ?_); clear H; intro _ _ H) | (refine l_st (k_callg1 evs_auto rfl rfl rfl H ca_Wr4 rfl ?_); clear H; intro _ _ H) | refine kq_call1 evs_auto H (fun _ H => ca_Wr4) rfl ?_ | refine kq_callg1 evs_auto rfl rfl rfl H (fun _ H => ca_Wr4) rfl ?_ | refine l_skipu rfl rfl rfl rfl ?_ | refine q_skipu rfl rfl rfl rfl ?_)
  · have h : sizesErr sizes ≠ 0 := by assumption
    (refine ret1 H rfl rfl rfl ?_; refine iv ?_); unfold wrsErr; rw [if_pos h]
  · have h : sizesErr sizes = 0 := by have : ¬ sizesErr sizes ≠ 0 := by assumption
                                      omega
    have hni : newIm sizes = zIm sizes := by unfold newIm; rw [if_pos h]
    have hso : sizesOf (newIm sizes) = sizes := by rw [hni, sizesOf_zIm h]
    have him : imErr (newIm sizes) = 0 := by unfold imErr; rw [hso, h]
    refine l_st (k_call1 evs_auto H (chkAll_any (im := newIm sizes) H mem_auto hnl him l A c mem_auto) rfl ?_)
    rw [hso]
    clear H; intro _ _ H
    repeat' (first | (apply l_rd; exact rd_go; rfl) | (apply q_rd; exact rd_go; rfl) | refine stp ?_ | refine bk_o rfl ?_ | refine c_true ⟨rfl, rfl⟩ ?_ | refine c_false ⟨rfl, rfl⟩ ?_ | (apply l_rdg; rfl; rfl; rfl; exact rd_go; rfl) | refine l_skip rfl rfl rfl rfl ?_ | (apply q_rdg; rfl; rfl; rfl; exact rd_go; rfl) | refine q_skip rfl rfl rfl rfl ?_ | refine c_draw H (by kernel_rfl) ?_ | (refine q_end ?_; clear H; intro _ H) | ((first | refine l_st (z_box H ?_) | refine l_st (s_alloc H rfl ?_)); clear H; intro _ _ _ H) | (refine l_st (t_build0 H rfl ?_); clear H; intro _ _ _ _ H) | (refine l_st (z_sto H ?_); clear H; intro _ H) | ((first | refine c_cond ⟨rfl, rfl⟩ ?_ ?_ | refine c_ncond ⟨rfl, rfl⟩ ?_ ?_ | refine l_split rfl rfl ?_ ?_ | refine q_split rfl rfl ?_ ?_ | refine l_nsplit rfl rfl ?_ ?_ | refine q_nsplit rfl rfl ?_ ?_) <;> intro _ <;> try (exfalso; omega)) | (refine l_st (k_call1 evs_auto H ca_Wr4 rfl ?_); clear H; intro _ _ H) | (refine l_st (k_callg1 evs_auto rfl rfl rfl H ca_Wr4 rfl ?_); clear H; intro _ _ H) | refine kq_call1 evs_auto H (fun _ H => ca_Wr4) rfl ?_ | refine kq_callg1 evs_auto rfl rfl rfl H (fun _ H => ca_Wr4) rfl ?_ | refine l_skipu rfl rfl rfl rfl ?_ | refine q_skipu rfl rfl rfl rfl ?_)
    (refine ret1 H rfl rfl rfl ?_; refine iv ?_); unfold wrsErr; rw [if_neg (by omega)]
theorem in103_any (n lo hi : Int) (w : World) : Ret Tryd.prog 103 [.int .i64 n, .int .i64 lo, .int .i64 hi] w fun v _ => v = .bool (decide (lo ≤ n ∧ n ≤ hi)) := by
  refine enter (M := fun _ => False) (F := []) Tryd.func103 rfl rfl rfl (by simp) fun H => ?_
  repeat' (first | (apply l_rd; exact rd_go; rfl) | (apply q_rd; exact rd_go; rfl) | refine stp ?_ | refine bk_o rfl ?_ | refine c_true ⟨rfl, rfl⟩ ?_ | refine c_false ⟨rfl, rfl⟩ ?_ | (apply l_rdg; rfl; rfl; rfl; exact rd_go; rfl) | refine l_skip rfl rfl rfl rfl ?_ | (apply q_rdg; rfl; rfl; rfl; exact rd_go; rfl) | refine q_skip rfl rfl rfl rfl ?_ | refine c_draw H (by kernel_rfl) ?_ | (refine q_end ?_; clear H; intro _ H) | ((first | refine l_st (z_box H ?_) | refine l_st (s_alloc H rfl ?_)); clear H; intro _ _ _ H) | (refine l_st (t_build0 H rfl ?_); clear H; intro _ _ _ _ H) | (refine l_st (z_sto H ?_); clear H; intro _ H) | ((first | refine c_cond ⟨rfl, rfl⟩ ?_ ?_ | refine c_ncond ⟨rfl, rfl⟩ ?_ ?_ | refine l_split rfl rfl ?_ ?_ | refine q_split rfl rfl ?_ ?_ | refine l_nsplit rfl rfl ?_ ?_ | refine q_nsplit rfl rfl ?_ ?_) <;> intro _ <;> try (exfalso; omega)) | (refine l_st (k_call1 evs_auto H ca_Wr4 rfl ?_); clear H; intro _ _ H) | (refine l_st (k_callg1 evs_auto rfl rfl rfl H ca_Wr4 rfl ?_); clear H; intro _ _ H) | refine kq_call1 evs_auto H (fun _ H => ca_Wr4) rfl ?_ | refine kq_callg1 evs_auto rfl rfl rfl H (fun _ H => ca_Wr4) rfl ?_ | refine l_skipu rfl rfl rfl rfl ?_ | refine q_skipu rfl rfl rfl rfl ?_)
  all_goals (refine ret1 H rfl rfl rfl ?_; refine bv ?_; rw [Bool.eq_iff_iff]; simp only [decide_eq_true_eq, Bool.not_eq_true', decide_eq_false_iff_not, Bool.false_eq_true, Bool.not_true, Bool.not_false, eq_self, true_iff, false_iff, iff_true, iff_false, Classical.not_not]; omega)
theorem posBad_any (n : Int) (w : World) : Ret Tryd.prog 141 [.int .i64 n] w fun v _ => v = .bool (decide (¬ (0 ≤ n ∧ n ≤ 1073741824))) := by
  refine enter (M := fun _ => False) (F := []) Tryd.func141 rfl rfl rfl (by simp) fun H => ?_
  repeat' (first | (apply l_rd; exact rd_go; rfl) | (apply q_rd; exact rd_go; rfl) | refine stp ?_ | refine bk_o rfl ?_ | refine c_true ⟨rfl, rfl⟩ ?_ | refine c_false ⟨rfl, rfl⟩ ?_ | (apply l_rdg; rfl; rfl; rfl; exact rd_go; rfl) | refine l_skip rfl rfl rfl rfl ?_ | (apply q_rdg; rfl; rfl; rfl; exact rd_go; rfl) | refine q_skip rfl rfl rfl rfl ?_ | refine c_draw H (by kernel_rfl) ?_ | (refine q_end ?_; clear H; intro _ H) | ((first | refine l_st (z_box H ?_) | refine l_st (s_alloc H rfl ?_)); clear H; intro _ _ _ H) | (refine l_st (t_build0 H rfl ?_); clear H; intro _ _ _ _ H) | (refine l_st (z_sto H ?_); clear H; intro _ H) | ((first | refine c_cond ⟨rfl, rfl⟩ ?_ ?_ | refine c_ncond ⟨rfl, rfl⟩ ?_ ?_ | refine l_split rfl rfl ?_ ?_ | refine q_split rfl rfl ?_ ?_ | refine l_nsplit rfl rfl ?_ ?_ | refine q_nsplit rfl rfl ?_ ?_) <;> intro _ <;> try (exfalso; omega)) | (refine l_st (k_call1 evs_auto H ca_Wr4 rfl ?_); clear H; intro _ _ H) | (refine l_st (k_callg1 evs_auto rfl rfl rfl H ca_Wr4 rfl ?_); clear H; intro _ _ H) | refine kq_call1 evs_auto H (fun _ H => ca_Wr4) rfl ?_ | refine kq_callg1 evs_auto rfl rfl rfl H (fun _ H => ca_Wr4) rfl ?_ | refine l_skipu rfl rfl rfl rfl ?_ | refine q_skipu rfl rfl rfl rfl ?_)
  refine ret1 H rfl rfl rfl ?_; refine bv ?_; rw [decide_not]
theorem posErr_ex (l : List Int) : posErr l = if ∃ n ∈ l, ¬ (0 ≤ n ∧ n ≤ 1073741824) then 2 else 0 := by
  unfold posErr
  by_cases h : ∃ n ∈ l, ¬ (0 ≤ n ∧ n ≤ 1073741824)
  · rw [if_pos h, if_neg (fun h2 => by obtain ⟨n, h3, h4⟩ := h; exact h4 (h2 n h3))]
  · rw [if_neg h, if_pos (fun n hn => Classical.byContradiction fun h2 => h ⟨n, hn, h2⟩)]
theorem positions_any (M : Nat → Prop) (l : List Int) (A : Option Addr) (c : Nat) (least : Int) (w : World) (hF : Stab w M (Row (kInt .i64) 1 A l)) :
    Ret Tryd.prog 104 [.slice A l.length c, .int .i64 least] w fun v _ => v = .int .i64 (if (l.length : Int) < least ∨ 8 < l.length then 6 else posErr l) := by
  refine enter (M := M) (F := [Row (kInt .i64) 1 A l]) Tryd.func104 rfl rfl rfl (by simpa using hF) fun H => ?_
  repeat' (first | (apply l_rd; exact rd_go; rfl) | (apply q_rd; exact rd_go; rfl) | refine stp ?_ | refine bk_o rfl ?_ | refine c_true ⟨rfl, rfl⟩ ?_ | refine c_false ⟨rfl, rfl⟩ ?_ | (apply l_rdg; rfl; rfl; rfl; exact rd_go; rfl) | refine l_skip rfl rfl rfl rfl ?_ | (apply q_rdg; rfl; rfl; rfl; exact rd_go; rfl) | refine q_skip rfl rfl rfl rfl ?_ | refine c_draw H (by kernel_rfl) ?_ | (refine q_end ?_; clear H; intro _ H) | ((first | refine l_st (z_box H ?_) | refine l_st (s_alloc H rfl ?_)); clear H; intro _ _ _ H) | (refine l_st (t_build0 H rfl ?_); clear H; intro _ _ _ _ H) | (refine l_st (z_sto H ?_); clear H; intro _ H) | ((first | refine c_cond ⟨rfl, rfl⟩ ?_ ?_ | refine c_ncond ⟨rfl, rfl⟩ ?_ ?_ | refine l_split rfl rfl ?_ ?_ | refine q_split rfl rfl ?_ ?_ | refine l_nsplit rfl rfl ?_ ?_ | refine q_nsplit rfl rfl ?_ ?_) <;> intro _ <;> try (exfalso; omega)) | (refine l_st (k_call1 evs_auto H ca_Wr4 rfl ?_); clear H; intro _ _ H) | (refine l_st (k_callg1 evs_auto rfl rfl rfl H ca_Wr4 rfl ?_); clear H; intro _ _ H) | refine kq_call1 evs_auto H (fun _ H => ca_Wr4) rfl ?_ | refine kq_callg1 evs_auto rfl rfl rfl H (fun _ H => ca_Wr4) rfl ?_ | refine l_skipu rfl rfl rfl rfl ?_ | refine q_skipu rfl rfl rfl rfl ?_)
  · (refine ret1 H rfl rfl rfl ?_; refine iv ?_); rw [if_pos (by omega)]
  · have h : ∃ n ∈ l, ¬ (0 ≤ n ∧ n ≤ 1073741824) := by assumption
    (refine ret1 H rfl rfl rfl ?_; refine iv ?_); rw [if_neg (by omega), posErr_ex, if_pos h]
  · have h : ¬ ∃ n ∈ l, ¬ (0 ≤ n ∧ n ≤ 1073741824) := by assumption
    (refine ret1 H rfl rfl rfl ?_; refine iv ?_); rw [if_neg (by omega), posErr_ex, if_neg h]
end Go.Proofs.YtiolpldihoghiaaDoor

namespace Go.Proofs.YtiolpldihoghiaaDoor
open Go.RowKit
set_option linter.unusedVariables false
set_option linter.unusedSimpArgs false
set_option maxHeartbeats 4000000
-- @UNDEF
theorem ca_Wr5 {k : FuncId} {vs : List Value} {w1 : World} {v : Value} (h : Ret Tryd.prog k vs w1 (fun u _ => u = v) := by first | exact rSizes_any _ _ _ _ _ (H.fact _ mem_auto) | exact in103_any _ _ _ _ | exact rFits_at _ _ _ _ _ _ _ _ (by assumption) (by assumption) (by assumption) (H.fact _ mem_auto)) : Ret Tryd.prog k vs w1 (fun u _ => u = v) := h
theorem rCo_any (M : Nat → Prop) (l : List Wr) (sizes : List Int) (A B : Option Addr) (c d : Nat) (w : World) (hF : Stab w M (Row kWr 3 A l)) (hF' : Stab w M (Row (kInt .i64) 1 B sizes)) :
    Ret Tryd.prog 107 [.slice A l.length c, .slice B sizes.length d] w fun v _ => v = .int .i64 (wrsErr l sizes) := by
  have hll := hF.now.len
  refine enter (M := M) (F := [Row kWr 3 A l, Row (kInt .i64) 1 B sizes]) Tryd.func107 rfl rfl rfl (by simpa using ⟨hF, hF'⟩) fun H => ?_
  repeat' (first | (apply l_rd; exact rd_go; rfl) | (apply q_rd; exact rd_go; rfl) | refine stp ?_ | refine bk_o rfl ?_ | refine c_true ⟨rfl, rfl⟩ ?_ | refine c_false ⟨rfl, rfl⟩ ?_ | (apply l_rdg; rfl; rfl; rfl; exact rd_go; rfl) | refine l_skip rfl rfl rfl rfl ?_ | (apply q_rdg; rfl; rfl; rfl; exact rd_go; rfl) | refine q_skip rfl rfl rfl rfl ?_ | refine c_draw H (by kernel_rfl) ?_ | (refine q_end ?_; clear H; intro _ H) | ((first | refine l_st (z_box H ?_) | refine l_st (s_alloc H rfl ?_)); clear H; intro _ _ _ H) | (refine l_st (t_build0 H rfl ?_); clear H; intro _ _ _ _ H) | (refine l_st (z_sto H ?_); clear H; intro _ H) | ((first | refine c_cond ⟨rfl, rfl⟩ ?_ ?_ | refine c_ncond ⟨rfl, rfl⟩ ?_ ?_ | refine l_split rfl rfl ?_ ?_ | refine q_split rfl rfl ?_ ?_ | refine l_nsplit rfl rfl ?_ ?_ | refine q_nsplit rfl rfl ?_ ?_) <;> intro _ <;> try (exfalso; omega)) | (refine l_st (k_call1 evs_auto H ca_Wr5 rfl ?_); clear H; intro _ _ H) | (refine l_st (k_callg1 evs_auto rfl rfl rfl H ca_Wr5 rfl ?_); clear H; intro _ _ H) | refine kq_call1 evs_auto H (fun _ H => ca_Wr5) rfl ?_ | refine kq_callg1 evs_auto rfl rfl rfl H (fun _ H => ca_Wr5) rfl ?_ | refine l_skipu rfl rfl rfl rfl ?_ | refine q_skipu rfl rfl rfl rfl ?_)
  · have h : sizesErr sizes ≠ 0 := by assumption
    (refine ret1 H rfl rfl rfl ?_; refine iv ?_); unfold wrsErr; rw [if_pos h]
  have hz : sizesErr sizes = 0 := by have : ¬ sizesErr sizes ≠ 0 := by assumption
                                     omega
  have hw : wrsErr l sizes = wrsGo sizes none l := by unfold wrsErr; rw [if_neg (by omega)]
  rw [hw]
  refine c_loopk [6] [0, 1] (fun n vs w' => ∃ (i : Nat), vs = [.int .i64 i] ∧ i ≤ l.length ∧ n = l.length - i ∧ wrsGo sizes (prevWr l i) (l.drop i) = wrsGo sizes none l ∧ (∀ (h : 0 < i) (h2 : i - 1 < l.length), fitsErr sizes l[i - 1] = 0) ∧
      Hp w M w' [] [] [Row kWr 3 A l, Row (kInt .i64) 1 B sizes]) _ [_, _] rfl ⟨0, rfl, Nat.zero_le _, rfl, rfl, fun h => by omega, H⟩ ?_
  clear H
  rintro n _ E0 w2 ⟨i, rfl, hi, rfl, hg, hfp, H⟩
  by_cases hi' : i < l.length
  · obtain ⟨A4, c4, r1, r2, q1, q2, H1⟩ := H.openWr (A := A) (xs := l) mem_auto hi'
    have hdl := (H1.fact (Row kSec 8 A4 (l[i]'hi').data) mem_auto).now.len
    clear H; have H := H1; clear H1
    by_cases hi0 : i = 0
    · have hp0 : prevWr l i = none := by rw [prevWr, if_pos hi0]
      rw [hp0] at hg
      repeat' (first | (apply l_rd; exact rd_go; rfl) | (apply q_rd; exact rd_go; rfl) | refine stp ?_ | refine bk_o rfl ?_ | refine c_true ⟨rfl, rfl⟩ ?_ | refine c_false ⟨rfl, rfl⟩ ?_ | (apply l_rdg; rfl; rfl; rfl; exact rd_go; rfl) | refine l_skip rfl rfl rfl rfl ?_ | (apply q_rdg; rfl; rfl; rfl; exact rd_go; rfl) | refine q_skip rfl rfl rfl rfl ?_ | refine c_draw H (by kernel_rfl) ?_ | (refine q_end ?_; clear H; intro _ H) | ((first | refine l_st (z_box H ?_) | refine l_st (s_alloc H rfl ?_)); clear H; intro _ _ _ H) | (refine l_st (t_build0 H rfl ?_); clear H; intro _ _ _ _ H) | (refine l_st (z_sto H ?_); clear H; intro _ H) | ((first | refine c_cond ⟨rfl, rfl⟩ ?_ ?_ | refine c_ncond ⟨rfl, rfl⟩ ?_ ?_ | refine l_split rfl rfl ?_ ?_ | refine q_split rfl rfl ?_ ?_ | refine l_nsplit rfl rfl ?_ ?_ | refine q_nsplit rfl rfl ?_ ?_) <;> intro _ <;> try (exfalso; omega)) | (refine l_st (k_call1 evs_auto H ca_Wr5 rfl ?_); clear H; intro _ _ H) | (refine l_st (k_callg1 evs_auto rfl rfl rfl H ca_Wr5 rfl ?_); clear H; intro _ _ H) | refine kq_call1 evs_auto H (fun _ H => ca_Wr5) rfl ?_ | refine kq_callg1 evs_auto rfl rfl rfl H (fun _ H => ca_Wr5) rfl ?_ | refine l_skipu rfl rfl rfl rfl ?_ | refine q_skipu rfl rfl rfl rfl ?_)
      · have hf : fitsErr sizes l[i] ≠ 0 := by assumption
        (refine ret1 H rfl rfl rfl ?_; refine iv ?_); rw [← hg, wrsGo_bad hi' hf]
      · have hf : ¬ fitsErr sizes l[i] ≠ 0 := by assumption
        exact lk_n rfl (n' := l.length - (i + 1)) (by omega) ⟨i + 1, rfl, by omega, rfl, by rw [prevWr_succ hi', ← hg, wrsGo_first hi' (by omega)], fun _ _ => by simp only [Nat.add_sub_cancel]; omega, H.weak (List.nil_sublist _) (List.Sublist.refl _) (by simp)⟩
    · have hpi : ((i : Int) - 1).toNat < l.length := by omega
      have hpe : ((i : Int) - 1).toNat = i - 1 := by omega
      obtain ⟨y, hy⟩ : ∃ y, l[((i : Int) - 1).toNat]'hpi = y := ⟨_, rfl⟩
      have hp1 : prevWr l i = some y := by rw [prevWr, if_neg hi0, List.getElem?_eq_getElem (by omega), ← hy]; simp only [hpe]
      have hfy : fitsErr sizes y = 0 := by rw [← hy]; simp only [hpe]; exact hfp (by omega) (by omega)
      obtain ⟨b1, b2, b3, b4, b5⟩ := fits_in hfy hz
      rw [hp1] at hg
      obtain ⟨A6, c6, r3, r4, q3, q4, H1⟩ := H.openWr (A := A) (xs := l) (i := ((i : Int) - 1).toNat) mem_auto hpi
      rw [hy] at H1 r3 r4 q3
      clear H; have H := H1; clear H1
      repeat' (first | (apply l_rd; exact rd_go; rfl) | (apply q_rd; exact rd_go; rfl) | refine stp ?_ | refine bk_o rfl ?_ | refine c_true ⟨rfl, rfl⟩ ?_ | refine c_false ⟨rfl, rfl⟩ ?_ | (apply l_rdg; rfl; rfl; rfl; exact rd_go; rfl) | refine l_skip rfl rfl rfl rfl ?_ | (apply q_rdg; rfl; rfl; rfl; exact rd_go; rfl) | refine q_skip rfl rfl rfl rfl ?_ | refine c_draw H (by kernel_rfl) ?_ | (refine q_end ?_; clear H; intro _ H) | ((first | refine l_st (z_box H ?_) | refine l_st (s_alloc H rfl ?_)); clear H; intro _ _ _ H) | (refine l_st (t_build0 H rfl ?_); clear H; intro _ _ _ _ H) | (refine l_st (z_sto H ?_); clear H; intro _ H) | ((first | refine c_cond ⟨rfl, rfl⟩ ?_ ?_ | refine c_ncond ⟨rfl, rfl⟩ ?_ ?_ | refine l_split rfl rfl ?_ ?_ | refine q_split rfl rfl ?_ ?_ | refine l_nsplit rfl rfl ?_ ?_ | refine q_nsplit rfl rfl ?_ ?_) <;> intro _ <;> try (exfalso; omega)) | (refine l_st (k_call1 evs_auto H ca_Wr5 rfl ?_); clear H; intro _ _ H) | (refine l_st (k_callg1 evs_auto rfl rfl rfl H ca_Wr5 rfl ?_); clear H; intro _ _ H) | refine kq_call1 evs_auto H (fun _ H => ca_Wr5) rfl ?_ | refine kq_callg1 evs_auto rfl rfl rfl H (fun _ H => ca_Wr5) rfl ?_ | refine l_skipu rfl rfl rfl rfl ?_ | refine q_skipu rfl rfl rfl rfl ?_)
      all_goals first
      | (have hf : fitsErr sizes l[i] ≠ 0 := by assumption
         (refine ret1 H rfl rfl rfl ?_; refine iv ?_); rw [← hg, wrsGo_bad hi' hf])
      | (have hf : ¬ fitsErr sizes l[i] ≠ 0 := by assumption
         first
         | ((refine ret1 H rfl rfl rfl ?_; refine iv ?_); rw [← hg, wrsGo_no hi' (by omega) (by omega)])
         | exact lk_n rfl (n' := l.length - (i + 1)) (by omega) ⟨i + 1, rfl, by omega, rfl, by rw [prevWr_succ hi', ← hg, wrsGo_yes hi' (by omega) (by omega)], fun _ _ => by simp only [Nat.add_sub_cancel]; omega, H.weak (List.nil_sublist _) (List.Sublist.refl _) (by simp)⟩)
  · repeat' (first | (apply l_rd; exact rd_go; rfl) | (apply q_rd; exact rd_go; rfl) | refine stp ?_ | refine bk_o rfl ?_ | refine c_true ⟨rfl, rfl⟩ ?_ | refine c_false ⟨rfl, rfl⟩ ?_ | (apply l_rdg; rfl; rfl; rfl; exact rd_go; rfl) | refine l_skip rfl rfl rfl rfl ?_ | (apply q_rdg; rfl; rfl; rfl; exact rd_go; rfl) | refine q_skip rfl rfl rfl rfl ?_ | refine c_draw H (by kernel_rfl) ?_ | (refine q_end ?_; clear H; intro _ H) | ((first | refine l_st (z_box H ?_) | refine l_st (s_alloc H rfl ?_)); clear H; intro _ _ _ H) | (refine l_st (t_build0 H rfl ?_); clear H; intro _ _ _ _ H) | (refine l_st (z_sto H ?_); clear H; intro _ H) | ((first | refine c_cond ⟨rfl, rfl⟩ ?_ ?_ | refine c_ncond ⟨rfl, rfl⟩ ?_ ?_ | refine l_split rfl rfl ?_ ?_ | refine q_split rfl rfl ?_ ?_ | refine l_nsplit rfl rfl ?_ ?_ | refine q_nsplit rfl rfl ?_ ?_) <;> intro _ <;> try (exfalso; omega)) | (refine l_st (k_call1 evs_auto H ca_Wr5 rfl ?_); clear H; intro _ _ H) | (refine l_st (k_callg1 evs_auto rfl rfl rfl H ca_Wr5 rfl ?_); clear H; intro _ _ H) | refine kq_call1 evs_auto H (fun _ H => ca_Wr5) rfl ?_ | refine kq_callg1 evs_auto rfl rfl rfl H (fun _ H => ca_Wr5) rfl ?_ | refine l_skipu rfl rfl rfl rfl ?_ | refine q_skipu rfl rfl rfl rfl ?_)
    have hi2 : i = l.length := by omega
    subst hi2
    (refine ret1 H rfl rfl rfl ?_; refine iv ?_); rw [← hg, wrsGo_end]
theorem rPos_any (M : Nat → Prop) (xs : List Int) (A : Option Addr) (c : Nat) (w : World) (hF : Stab w M (Row (kInt .i64) 1 A xs)) :
    Ret Tryd.prog 106 [.slice A xs.length c] w fun v _ => v = .int .i64 (posErr xs) := by
  have hlen := hF.now.len
  refine enter (M := M) (F := [Row (kInt .i64) 1 A xs]) Tryd.func106 rfl rfl rfl (by simpa using hF) fun H => ?_
  repeat' (first | (apply l_rd; exact rd_go; rfl) | (apply q_rd; exact rd_go; rfl) | refine stp ?_ | refine bk_o rfl ?_ | refine c_true ⟨rfl, rfl⟩ ?_ | refine c_false ⟨rfl, rfl⟩ ?_ | (apply l_rdg; rfl; rfl; rfl; exact rd_go; rfl) | refine l_skip rfl rfl rfl rfl ?_ | (apply q_rdg; rfl; rfl; rfl; exact rd_go; rfl) | refine q_skip rfl rfl rfl rfl ?_ | refine c_draw H (by kernel_rfl) ?_ | (refine q_end ?_; clear H; intro _ H) | ((first | refine l_st (z_box H ?_) | refine l_st (s_alloc H rfl ?_)); clear H; intro _ _ _ H) | (refine l_st (t_build0 H rfl ?_); clear H; intro _ _ _ _ H) | (refine l_st (z_sto H ?_); clear H; intro _ H) | ((first | refine c_cond ⟨rfl, rfl⟩ ?_ ?_ | refine c_ncond ⟨rfl, rfl⟩ ?_ ?_ | refine l_split rfl rfl ?_ ?_ | refine q_split rfl rfl ?_ ?_ | refine l_nsplit rfl rfl ?_ ?_ | refine q_nsplit rfl rfl ?_ ?_) <;> intro _ <;> try (exfalso; omega)) | (refine l_st (k_call1 evs_auto H ca_Wr5 rfl ?_); clear H; intro _ _ H) | (refine l_st (k_callg1 evs_auto rfl rfl rfl H ca_Wr5 rfl ?_); clear H; intro _ _ H) | refine kq_call1 evs_auto H (fun _ H => ca_Wr5) rfl ?_ | refine kq_callg1 evs_auto rfl rfl rfl H (fun _ H => ca_Wr5) rfl ?_ | refine l_skipu rfl rfl rfl rfl ?_ | refine q_skipu rfl rfl rfl rfl ?_)
  refine c_loopk [3] [0] (fun n vs w' => ∃ (i : Nat), vs = [.int .i64 i] ∧ i ≤ xs.length ∧ n = xs.length - i ∧ (∀ j (hj : j < xs.length), j < i → 0 ≤ xs[j] ∧ xs[j] ≤ 1073741824) ∧ Hp w M w' [] [] [Row (kInt .i64) 1 A xs]) _ [_] rfl ⟨0, rfl, Nat.zero_le _, rfl, fun j _ hj => by omega, H⟩ ?_
  clear H
  rintro n _ E0 w2 ⟨i, rfl, hi, rfl, hn, H⟩
  have bad : (hi' : i < xs.length) → ¬ (0 ≤ xs[i] ∧ xs[i] ≤ 1073741824) → 2 = posErr xs := fun hi' h => by
    unfold posErr; rw [if_neg (fun h2 => h (h2 _ (List.getElem_mem _)))]
  repeat' (first | (apply l_rd; exact rd_go; rfl) | (apply q_rd; exact rd_go; rfl) | refine stp ?_ | refine bk_o rfl ?_ | refine c_true ⟨rfl, rfl⟩ ?_ | refine c_false ⟨rfl, rfl⟩ ?_ | (apply l_rdg; rfl; rfl; rfl; exact rd_go; rfl) | refine l_skip rfl rfl rfl rfl ?_ | (apply q_rdg; rfl; rfl; rfl; exact rd_go; rfl) | refine q_skip rfl rfl rfl rfl ?_ | refine c_draw H (by kernel_rfl) ?_ | (refine q_end ?_; clear H; intro _ H) | ((first | refine l_st (z_box H ?_) | refine l_st (s_alloc H rfl ?_)); clear H; intro _ _ _ H) | (refine l_st (t_build0 H rfl ?_); clear H; intro _ _ _ _ H) | (refine l_st (z_sto H ?_); clear H; intro _ H) | ((first | refine c_cond ⟨rfl, rfl⟩ ?_ ?_ | refine c_ncond ⟨rfl, rfl⟩ ?_ ?_ | refine l_split rfl rfl ?_ ?_ | refine q_split rfl rfl ?_ ?_ | refine l_nsplit rfl rfl ?_ ?_ | refine q_nsplit rfl rfl ?_ ?_) <;> intro _ <;> try (exfalso; omega)) | (refine l_st (k_call1 evs_auto H ca_Wr5 rfl ?_); clear H; intro _ _ H) | (refine l_st (k_callg1 evs_auto rfl rfl rfl H ca_Wr5 rfl ?_); clear H; intro _ _ H) | refine kq_call1 evs_auto H (fun _ H => ca_Wr5) rfl ?_ | refine kq_callg1 evs_auto rfl rfl rfl H (fun _ H => ca_Wr5) rfl ?_ | refine l_skipu rfl rfl rfl rfl ?_ | refine q_skipu rfl rfl rfl rfl ?_)
  · (refine ret1 H rfl rfl rfl ?_; refine iv ?_); exact bad (by omega) (by omega)
  · (refine ret1 H rfl rfl rfl ?_; refine iv ?_); exact bad (by omega) (by omega)
  · exact lk_n rfl (n' := xs.length - (i + 1)) (by omega) ⟨i + 1, rfl, by omega, rfl, fun j hj hji => by rcases Nat.lt_succ_iff_lt_or_eq.1 hji with h | rfl; exact hn j hj h; omega, H⟩
  · (refine ret1 H rfl rfl rfl ?_; refine iv ?_); unfold posErr; rw [if_pos (fun n hn' => by obtain ⟨j, hj, rfl⟩ := List.mem_iff_getElem.1 hn'; exact hn j hj (by omega))]
end Go.Proofs.YtiolpldihoghiaaDoor

namespace Go.Proofs.YtiolpldihoghiaaDoor
open Go.RowKit
set_option linter.unusedVariables false
set_option linter.unusedSimpArgs false
set_option maxHeartbeats 4000000
-- @UNDEF
theorem ca_Wr6 {k : FuncId} {vs : List Value} {w1 : World} {v : Value} (h : Ret Tryd.prog k vs w1 (fun u _ => u = v) := by first | exact rSizes_any _ _ _ _ _ (H.fact _ mem_auto) | exact in103_any _ _ _ _ | exact positions_any _ _ _ _ _ _ (H.fact _ mem_auto) | exact rPos_any _ _ _ _ _ (H.fact _ mem_auto) | exact rCo_any _ _ _ _ _ _ _ _ (H.fact _ mem_auto) (H.fact _ mem_auto) | exact coCheck_any _ _ _ _ _ _ _ _ (H.mu_lt hM) (H.fact _ mem_auto) (H.fact _ mem_auto)) : Ret Tryd.prog k vs w1 (fun u _ => u = v) := h
section
variable {y : Cyc} {sizes : List Int}
theorem ce1 (h : sizesErr sizes ≠ 0) : sizesErr sizes = cycErr y sizes := by unfold cycErr; rw [if_pos h]
theorem ce2 (h : ¬ sizesErr sizes ≠ 0) (h2 : y.base < 0 ∨ y.number ≤ y.base ∨ 1073741824 < y.number) : 2 = cycErr y sizes := by unfold cycErr; rw [if_neg h, if_pos h2]
theorem ce3 (h : ¬ sizesErr sizes ≠ 0) (h2 : ¬ (y.base < 0 ∨ y.number ≤ y.base ∨ 1073741824 < y.number)) (h3 : y.time < 0 ∨ 1073741824 < y.time) : 24 = cycErr y sizes := by unfold cycErr; rw [if_neg h, if_neg h2, if_pos h3]
theorem ce4 (h : ¬ sizesErr sizes ≠ 0) (h2 : ¬ (y.base < 0 ∨ y.number ≤ y.base ∨ 1073741824 < y.number)) (h3 : ¬ (y.time < 0 ∨ 1073741824 < y.time)) (h4 : 8 < y.pos.length) : 6 = cycErr y sizes := by unfold cycErr; rw [if_neg h, if_neg h2, if_neg h3, if_pos h4]
theorem ce5 (h : ¬ sizesErr sizes ≠ 0) (h2 : ¬ (y.base < 0 ∨ y.number ≤ y.base ∨ 1073741824 < y.number)) (h3 : ¬ (y.time < 0 ∨ 1073741824 < y.time)) (h4 : ¬ 8 < y.pos.length) (h5 : posErr y.pos ≠ 0) : posErr y.pos = cycErr y sizes := by unfold cycErr; rw [if_neg h, if_neg h2, if_neg h3, if_neg h4, if_pos h5]
theorem ce6 (h : ¬ sizesErr sizes ≠ 0) (h2 : ¬ (y.base < 0 ∨ y.number ≤ y.base ∨ 1073741824 < y.number)) (h3 : ¬ (y.time < 0 ∨ 1073741824 < y.time)) (h4 : ¬ 8 < y.pos.length) (h5 : ¬ posErr y.pos ≠ 0) : wrsErr y.writes sizes = cycErr y sizes := by unfold cycErr; rw [if_neg h, if_neg h2, if_neg h3, if_neg h4, if_neg h5]
end
theorem cyc_any (M : Nat → Prop) (y : Cyc) (sizes : List Int) (A1 A2 B : Option Addr) (c1 c2 d : Nat) (w : World) (hM : ∀ b, M b → b < w.heap.size) (h1 : Stab w M (Row (kInt .i64) 1 A1 y.pos)) (h2 : Stab w M (Row kWr 3 A2 y.writes)) (hF' : Stab w M (Row (kInt .i64) 1 B sizes)) :
    Ret Tryd.prog 53 [.agg [.int .i64 y.base, .int .i64 y.number, .int .i64 y.time, .slice A1 y.pos.length c1, .slice A2 y.writes.length c2].toArray, .slice B sizes.length d] w fun v _ => v = .int .i64 (cycErr y sizes) := by
  have hl1 := h1.now.len
  refine enter (M := M) (F := [Row (kInt .i64) 1 A1 y.pos, Row kWr 3 A2 y.writes, Row (kInt .i64) 1 B sizes]) Tryd.func53 rfl rfl rfl (by simpa using ⟨h1, h2, hF'⟩) fun H => ?_
  repeat' (first | (apply l_rd; exact rd_go; rfl) | (apply q_rd; exact rd_go; rfl) | refine stp ?_ | refine bk_o rfl ?_ | refine c_true ⟨rfl, rfl⟩ ?_ | refine c_false ⟨rfl, rfl⟩ ?_ | (apply l_rdg; rfl; rfl; rfl; exact rd_go; rfl) | refine l_skip rfl rfl rfl rfl ?_ | (apply q_rdg; rfl; rfl; rfl; exact rd_go; rfl) | refine q_skip rfl rfl rfl rfl ?_ | refine c_draw H (by kernel_rfl) ?_ | (refine q_end ?_; clear H; intro _ H) | ((first | refine l_st (z_box H ?_) | refine l_st (s_alloc H rfl ?_)); clear H; intro _ _ _ H) | (refine l_st (t_build0 H rfl ?_); clear H; intro _ _ _ _ H) | (refine l_st (z_sto H ?_); clear H; intro _ H) | ((first | refine c_cond ⟨rfl, rfl⟩ ?_ ?_ | refine c_ncond ⟨rfl, rfl⟩ ?_ ?_ | refine l_split rfl rfl ?_ ?_ | refine q_split rfl rfl ?_ ?_ | refine l_nsplit rfl rfl ?_ ?_ | refine q_nsplit rfl rfl ?_ ?_) <;> intro _ <;> try (exfalso; omega)) | (refine l_st (k_call1 evs_auto H ca_Wr6 rfl ?_); clear H; intro _ _ H) | (refine l_st (k_callg1 evs_auto rfl rfl rfl H ca_Wr6 rfl ?_); clear H; intro _ _ H) | refine kq_call1 evs_auto H (fun _ H => ca_Wr6) rfl ?_ | refine kq_callg1 evs_auto rfl rfl rfl H (fun _ H => ca_Wr6) rfl ?_ | refine l_skipu rfl rfl rfl rfl ?_ | refine q_skipu rfl rfl rfl rfl ?_)
  refine l_st (k_call evs_auto H (newIm_any (Mu M _ []) sizes B d _ (H.mu_lt hM) (H.fact _ mem_auto)) rfl ?_)
  clear H; rintro _ w1 ⟨vs, rfl, _⟩ _ H
  repeat' (first | (apply l_rd; exact rd_go; rfl) | (apply q_rd; exact rd_go; rfl) | refine stp ?_ | refine bk_o rfl ?_ | refine c_true ⟨rfl, rfl⟩ ?_ | refine c_false ⟨rfl, rfl⟩ ?_ | (apply l_rdg; rfl; rfl; rfl; exact rd_go; rfl) | refine l_skip rfl rfl rfl rfl ?_ | (apply q_rdg; rfl; rfl; rfl; exact rd_go; rfl) | refine q_skip rfl rfl rfl rfl ?_ | refine c_draw H (by kernel_rfl) ?_ | (refine q_end ?_; clear H; intro _ H) | ((first | refine l_st (z_box H ?_) | refine l_st (s_alloc H rfl ?_)); clear H; intro _ _ _ H) | (refine l_st (t_build0 H rfl ?_); clear H; intro _ _ _ _ H) | (refine l_st (z_sto H ?_); clear H; intro _ H) | ((first | refine c_cond ⟨rfl, rfl⟩ ?_ ?_ | refine c_ncond ⟨rfl, rfl⟩ ?_ ?_ | refine l_split rfl rfl ?_ ?_ | refine q_split rfl rfl ?_ ?_ | refine l_nsplit rfl rfl ?_ ?_ | refine q_nsplit rfl rfl ?_ ?_) <;> intro _ <;> try (exfalso; omega)) | (refine l_st (k_call1 evs_auto H ca_Wr6 rfl ?_); clear H; intro _ _ H) | (refine l_st (k_callg1 evs_auto rfl rfl rfl H ca_Wr6 rfl ?_); clear H; intro _ _ H) | refine kq_call1 evs_auto H (fun _ H => ca_Wr6) rfl ?_ | refine kq_callg1 evs_auto rfl rfl rfl H (fun _ H => ca_Wr6) rfl ?_ | refine l_skipu rfl rfl rfl rfl ?_ | refine q_skipu rfl rfl rfl rfl ?_)
  · (refine ret1 H rfl rfl rfl ?_; refine iv ?_); exact ce1 (by assumption)
  · (refine ret1 H rfl rfl rfl ?_; refine iv ?_); exact ce2 (by assumption) (by omega)
  · (refine ret1 H rfl rfl rfl ?_; refine iv ?_); exact ce2 (by assumption) (by omega)
  · (refine ret1 H rfl rfl rfl ?_; refine iv ?_); exact ce2 (by assumption) (by omega)
  · (refine ret1 H rfl rfl rfl ?_; refine iv ?_); exact ce3 (by assumption) (by omega) (by omega)
  · have hp : (if (y.pos.length : Int) < 0 ∨ 8 < y.pos.length then 6 else posErr y.pos) ≠ 0 := by assumption
    (refine ret1 H rfl rfl rfl ?_; refine iv ?_)
    by_cases h8 : 8 < y.pos.length
    · rw [if_pos (.inr h8)]; exact ce4 (by assumption) (by omega) (by omega) h8
    · rw [if_neg (by omega)] at hp ⊢; exact ce5 (by assumption) (by omega) (by omega) h8 hp
  · have hp : ¬ (if (y.pos.length : Int) < 0 ∨ 8 < y.pos.length then 6 else posErr y.pos) ≠ 0 := by assumption
    (refine ret1 H rfl rfl rfl ?_; refine iv ?_)
    by_cases h8 : 8 < y.pos.length
    · rw [if_pos (.inr h8)] at hp; omega
    · rw [if_neg (by omega)] at hp; exact ce6 (by assumption) (by omega) (by omega) h8 hp
theorem rCyc_any (M : Nat → Prop) (y : Cyc) (sizes : List Int) (A1 A2 B : Option Addr) (c1 c2 d : Nat) (w : World) (h1 : Stab w M (Row (kInt .i64) 1 A1 y.pos)) (h2 : Stab w M (Row kWr 3 A2 y.writes)) (hF' : Stab w M (Row (kInt .i64) 1 B sizes)) :
    Ret Tryd.prog 56 [.agg [.int .i64 y.base, .int .i64 y.number, .int .i64 y.time, .slice A1 y.pos.length c1, .slice A2 y.writes.length c2].toArray, .slice B sizes.length d] w fun v _ => v = .int .i64 (cycErr y sizes) := by
  have hl1 := h1.now.len
  refine enter (M := M) (F := [Row (kInt .i64) 1 A1 y.pos, Row kWr 3 A2 y.writes, Row (kInt .i64) 1 B sizes]) Tryd.func56 rfl rfl rfl (by simpa using ⟨h1, h2, hF'⟩) fun H => ?_
  repeat' (first | (apply l_rd; exact rd_go; rfl) | (apply q_rd; exact rd_go; rfl) | refine stp ?_ | refine bk_o rfl ?_ | refine c_true ⟨rfl, rfl⟩ ?_ | refine c_false ⟨rfl, rfl⟩ ?_ | (apply l_rdg; rfl; rfl; rfl; exact rd_go; rfl) | refine l_skip rfl rfl rfl rfl ?_ | (apply q_rdg; rfl; rfl; rfl; exact rd_go; rfl) | refine q_skip rfl rfl rfl rfl ?_ | refine c_draw H (by kernel_rfl) ?_ | (refine q_end ?_; clear H; intro _ H) | ((first | refine l_st (z_box H ?_) | refine l_st (s_alloc H rfl ?_)); clear H; intro _ _ _ H) | (refine l_st (t_build0 H rfl ?_); clear H; intro _ _ _ _ H) | (refine l_st (z_sto H ?_); clear H; intro _ H) | ((first | refine c_cond ⟨rfl, rfl⟩ ?_ ?_ | refine c_ncond ⟨rfl, rfl⟩ ?_ ?_ | refine l_split rfl rfl ?_ ?_ | refine q_split rfl rfl ?_ ?_ | refine l_nsplit rfl rfl ?_ ?_ | refine q_nsplit rfl rfl ?_ ?_) <;> intro _ <;> try (exfalso; omega)) | (refine l_st (k_call1 evs_auto H ca_Wr6 rfl ?_); clear H; intro _ _ H) | (refine l_st (k_callg1 evs_auto rfl rfl rfl H ca_Wr6 rfl ?_); clear H; intro _ _ H) | refine kq_call1 evs_auto H (fun _ H => ca_Wr6) rfl ?_ | refine kq_callg1 evs_auto rfl rfl rfl H (fun _ H => ca_Wr6) rfl ?_ | refine l_skipu rfl rfl rfl rfl ?_ | refine q_skipu rfl rfl rfl rfl ?_)
  all_goals ((refine ret1 H rfl rfl rfl ?_; refine iv ?_); first | exact ce1 (by assumption) | exact ce2 (by assumption) (by omega) | exact ce3 (by assumption) (by omega) (by omega) | exact ce4 (by assumption) (by omega) (by omega) (by omega) | exact ce5 (by assumption) (by omega) (by omega) (by omega) (by assumption) | exact ce6 (by assumption) (by omega) (by omega) (by omega) (by assumption))
end Go.Proofs.YtiolpldihoghiaaDoor
