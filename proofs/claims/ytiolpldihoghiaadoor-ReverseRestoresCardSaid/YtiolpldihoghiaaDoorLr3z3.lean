/- ReverseRestores: the walk. Printed by tools/lu3.py. Two lists of writes, opened. ReverseRestores: for every input of the row's form the law answers true and leaves its input alone. -/
import Derived.Test.YtiolpldihoghiaaDoorLr3z2
import Derived.Test.YtiolpldihoghiaaDoorC10
import Derived.Test.YtiolpldihoghiaaDoorCards
import Derived.Test.YtiolpldihoghiaaDoorTie
namespace Go.Proofs.YtiolpldihoghiaaDoor
open Go.RowKit
set_option linter.unusedVariables false
set_option linter.unusedSimpArgs false
set_option maxHeartbeats 16000000
theorem ca_Lu3 {k : FuncId} {vs : List Value} {w1 : World} {v : Value} (h : Ret Tryd.prog k vs w1 (fun u _ => u = v) := by first | exact small_any _ _ _ _ _ (H.fact _ mem_auto) | exact awake_any _ _ (H.mu_lt hM) (H.fact _ mem_auto)) : Ret Tryd.prog k vs w1 (fun u _ => u = v) := h
instance : ArT Tryd.prog 52 2 43 1 := arT (by kernel_rfl) (by kernel_rfl)
theorem restores_any (M : Nat → Prop) (w : World) (hM : ∀ b, M b → b < w.heap.size) (s common : Int) (hs : rng .u8 s) (hc : rng .u8 common) (l1 l2 : List Wr) (A1 A2 : Option Addr) (c1 c2 : Nat)
    (h1 : Stab w M (Row kWr 3 A1 l1)) (h2 : Stab w M (Row kWr 3 A2 l2)) (hT : Stab w M TabF) :
    Ret Tryd.prog 5 [.int .u8 s, .int .u8 common, .agg [.slice A1 l1.length c1, .slice A2 l2.length c2].toArray] w fun v _ => v = .bool true := by
  have hz := imOf_ok hs
  have hn := nOf_rng hc
  have himl : (imOf s).length ≤ 140737488355328 := by
    obtain ⟨z1, z2, z3⟩ := sizesErr_zero hz
    have := sizesOf_len (imOf s); omega
  obtain ⟨hcy, -⟩ := sides_cyc (l1 := l1) (l2 := l2) hz hc (pos := [4]) (by decide)
  have hcap := sides_old (l1 := l1) (l2 := l2) hz hc (pos := [4]) (by decide)
  have hsd := fun (M : Nat → Prop) (A27 : Option Addr) (c27 : Nat) (w : World) (hM : ∀ b, M b → b < w.heap.size) (hF : Stab w M (Row kVol 1 A27 (imOf s))) (h1 : Stab w M (Row kWr 3 A1 l1)) (h2 : Stab w M (Row kWr 3 A2 l2)) => sides_any M (imOf s) l1 l2 common A27 A1 A2 c27 c1 c2 w hM hc hz hF h1 h2
  have hwl := contents_len (p := siteOf (imOf s) 0 (linA (nOf common)) l1) (q := siteOf (imOf s) 1 (linB (nOf common)) l2) (n := nOf common + 2) (t := 9) (pos := [4])
  rw [hcy] at hwl
  simp only at hwl
  have hps : (siteOf (imOf s) 0 (linA (nOf common)) l1).site = 0 := rfl
  have hqs : (siteOf (imOf s) 1 (linB (nOf common)) l2).site = 1 := rfl
  have hpl := (side_site (lin := linA (nOf common)) hz (s := 0) (by omega) (lin_facts hn).1 l1).len hz
  have hql := (side_site (lin := linB (nOf common)) hz (s := 1) (by omega) (lin_facts hn).2.1 l2).len hz
  have hyb : (sideCyc (imOf s) common l1 l2 [4]).base = 1 + common % 5 := rfl
  have hyn : (sideCyc (imOf s) common l1 l2 [4]).number = 1 + common % 5 + 2 := rfl
  have hyp : (sideCyc (imOf s) common l1 l2 [4]).pos = [4] := rfl
  generalize siteOf (imOf s) 0 (linA (nOf common)) l1 = p at *
  generalize siteOf (imOf s) 1 (linB (nOf common)) l2 = q at *
  generalize sideCyc (imOf s) common l1 l2 [4] = y at *
  refine enter (M := M) (F := [Row kWr 3 A1 l1, Row kWr 3 A2 l2, TabF]) Tryd.func5 rfl rfl rfl (by simpa using ⟨h1, h2, hT⟩) fun H => ?_
  repeat' (first | (apply l_rd; exact rd_go; rfl) | (apply q_rd; exact rd_go; rfl) | refine stp ?_ | refine bk_o rfl ?_ | refine c_true ⟨rfl, rfl⟩ ?_ | refine c_false ⟨rfl, rfl⟩ ?_ | (apply l_rdg; rfl; rfl; rfl; exact rd_go; rfl) | refine l_skip rfl rfl rfl rfl ?_ | (apply q_rdg; rfl; rfl; rfl; exact rd_go; rfl) | refine q_skip rfl rfl rfl rfl ?_ | (refine q_end ?_; clear H; intro _ H) | ((first | refine l_st (z_box H ?_) | refine l_st (s_alloc H rfl ?_)); clear H; intro _ _ _ H) | (refine l_st (t_build0 H rfl ?_); clear H; intro _ _ _ _ H) | (refine l_st (z_sto H ?_); clear H; intro _ H) | ((first | refine c_cond ⟨rfl, rfl⟩ ?_ ?_ | refine c_ncond ⟨rfl, rfl⟩ ?_ ?_ | refine l_split rfl rfl ?_ ?_ | refine q_split rfl rfl ?_ ?_ | refine l_nsplit rfl rfl ?_ ?_ | refine q_nsplit rfl rfl ?_ ?_) <;> intro _ <;> try (exfalso; omega)) | (refine l_st (k_call1 evs_auto H ca_Lu3 rfl ?_); clear H; intro _ _ H) | (refine l_st (k_callg1 evs_auto rfl rfl rfl H ca_Lu3 rfl ?_); clear H; intro _ _ H) | refine kq_call1 evs_auto H (fun _ H => ca_Lu3) rfl ?_ | refine kq_callg1 evs_auto rfl rfl rfl H (fun _ H => ca_Lu3) rfl ?_)
  refine l_rd (rd_index_arr (m := 0) ⟨rfl, rfl⟩ ⟨rfl, rfl⟩ rfl (by decide)) rfl ?_
  repeat' (first | (apply l_rd; exact rd_go; rfl) | (apply q_rd; exact rd_go; rfl) | refine stp ?_ | refine bk_o rfl ?_ | refine c_true ⟨rfl, rfl⟩ ?_ | refine c_false ⟨rfl, rfl⟩ ?_ | (apply l_rdg; rfl; rfl; rfl; exact rd_go; rfl) | refine l_skip rfl rfl rfl rfl ?_ | (apply q_rdg; rfl; rfl; rfl; exact rd_go; rfl) | refine q_skip rfl rfl rfl rfl ?_ | (refine q_end ?_; clear H; intro _ H) | ((first | refine l_st (z_box H ?_) | refine l_st (s_alloc H rfl ?_)); clear H; intro _ _ _ H) | (refine l_st (t_build0 H rfl ?_); clear H; intro _ _ _ _ H) | (refine l_st (z_sto H ?_); clear H; intro _ H) | ((first | refine c_cond ⟨rfl, rfl⟩ ?_ ?_ | refine c_ncond ⟨rfl, rfl⟩ ?_ ?_ | refine l_split rfl rfl ?_ ?_ | refine q_split rfl rfl ?_ ?_ | refine l_nsplit rfl rfl ?_ ?_ | refine q_nsplit rfl rfl ?_ ?_) <;> intro _ <;> try (exfalso; omega)) | (refine l_st (k_call1 evs_auto H ca_Lu3 rfl ?_); clear H; intro _ _ H) | (refine l_st (k_callg1 evs_auto rfl rfl rfl H ca_Lu3 rfl ?_); clear H; intro _ _ H) | refine kq_call1 evs_auto H (fun _ H => ca_Lu3) rfl ?_ | refine kq_callg1 evs_auto rfl rfl rfl H (fun _ H => ca_Lu3) rfl ?_)
  · exact ret1 H rfl rfl rfl rfl
  refine l_rdg rfl rfl rfl (rd_index_arr (m := 1) ⟨rfl, rfl⟩ ⟨rfl, rfl⟩ rfl (by decide)) rfl ?_
  repeat' (first | (apply l_rd; exact rd_go; rfl) | (apply q_rd; exact rd_go; rfl) | refine stp ?_ | refine bk_o rfl ?_ | refine c_true ⟨rfl, rfl⟩ ?_ | refine c_false ⟨rfl, rfl⟩ ?_ | (apply l_rdg; rfl; rfl; rfl; exact rd_go; rfl) | refine l_skip rfl rfl rfl rfl ?_ | (apply q_rdg; rfl; rfl; rfl; exact rd_go; rfl) | refine q_skip rfl rfl rfl rfl ?_ | (refine q_end ?_; clear H; intro _ H) | ((first | refine l_st (z_box H ?_) | refine l_st (s_alloc H rfl ?_)); clear H; intro _ _ _ H) | (refine l_st (t_build0 H rfl ?_); clear H; intro _ _ _ _ H) | (refine l_st (z_sto H ?_); clear H; intro _ H) | ((first | refine c_cond ⟨rfl, rfl⟩ ?_ ?_ | refine c_ncond ⟨rfl, rfl⟩ ?_ ?_ | refine l_split rfl rfl ?_ ?_ | refine q_split rfl rfl ?_ ?_ | refine l_nsplit rfl rfl ?_ ?_ | refine q_nsplit rfl rfl ?_ ?_) <;> intro _ <;> try (exfalso; omega)) | (refine l_st (k_call1 evs_auto H ca_Lu3 rfl ?_); clear H; intro _ _ H) | (refine l_st (k_callg1 evs_auto rfl rfl rfl H ca_Lu3 rfl ?_); clear H; intro _ _ H) | refine kq_call1 evs_auto H (fun _ H => ca_Lu3) rfl ?_ | refine kq_callg1 evs_auto rfl rfl rfl H (fun _ H => ca_Lu3) rfl ?_)
  · exact ret1 H rfl rfl rfl rfl
  refine c_cut [7, 8, 1] (fun vs w' => ∃ (b7 b8 : Nat) (P1 : Option Addr) (e1 : Nat) (P2 : Option Addr) (e2 : Nat) (P3 : Option Addr) (e3 : Nat) (Q1 : Option Addr) (f1 : Nat) (Q2 : Option Addr) (f2 : Nat) (Q3 : Option Addr) (f3 : Nat), vs = [lp b7 0, lp b8 0, .int .u8 common] ∧
    Hp w M w' [⟨b8, [.int .i64 q.site, .slice Q1 q.lin.length f1, .slice Q2 q.dirty.length f2, .slice Q3 q.im.length f3], 27⟩, ⟨b7, [.int .i64 p.site, .slice P1 p.lin.length e1, .slice P2 p.dirty.length e2, .slice P3 p.im.length e3], 27⟩] []
      [Row kVol 1 Q3 q.im, Row kBm 2 Q2 q.dirty, Row kSpan 3 Q1 q.lin, Row kVol 1 P3 p.im, Row kBm 2 P2 p.dirty, Row kSpan 3 P1 p.lin, TabF]) ?_ ?_
  · refine c_mix H [13, 14] ?_
    clear H; intro w5 H
    have hbw : Below w5.heap.size w5 w5 := Below.refl _ _
    (apply m_rd2 (i := 0) rfl (by decide +kernel) (by first | exact Below.refl _ _ | assumption); exact rd_go; rfl)
    apply m_rd2 (i := 2) rfl (by decide +kernel) (by first | exact Below.refl _ _ | assumption)
    exact rd_index_arr (m := 0) ⟨rfl, rfl⟩ ⟨rfl, rfl⟩ rfl (by decide)
    rfl
    (apply m_rd2 (i := 3) rfl (by decide +kernel) (by first | exact Below.refl _ _ | assumption); exact rd_go; rfl)
    apply m_rd2 (i := 4) rfl (by decide +kernel) (by first | exact Below.refl _ _ | assumption)
    exact rd_index_arr (m := 1) ⟨rfl, rfl⟩ ⟨rfl, rfl⟩ rfl (by decide)
    rfl
    (apply m_rd2 (i := 5) rfl (by decide +kernel) (by first | exact Below.refl _ _ | assumption); exact rd_go; rfl); (apply m_rd2 (i := 6) rfl (by decide +kernel) (by first | exact Below.refl _ _ | assumption); exact rd_go; rfl)
    refine m_three (i := 1) (j := 11) (k := 12) (by kernel_rfl) rfl rfl rfl ?_ ?_ ?_
    · refine k_call evs_auto H (image_any H.mu s _ (H.mu_lt hM) hs) rfl ?_
      intro v1 w1 hf1 hb1 _
      obtain ⟨A27, c27, hv1, _, _, H1⟩ := H.takeRow hb1 hf1 hM Nat.zero_lt_one himl
      subst hv1
      have hbw2 := hbw.trans (hb1.mono hbw.size)
      refine ⟨fun _ => hbw2, ?_⟩
      clear H hbw hf1; have H := H1; have hbw := hbw2; clear H1 hbw2
      refine m_three (i := 7) (j := 11) (k := 12) (by kernel_rfl) rfl rfl rfl ?_ ?_ ?_
      · refine k_call evs_auto H (hsd H.mu A27 c27 _ (H.mu_lt hM) (H.fact (Row kVol 1 A27 (imOf s)) mem_auto) (H.fact _ mem_auto) (H.fact _ mem_auto)) rfl ?_
        rintro _ w7 ⟨v7, v8, rfl, ⟨P1, e1, P2, e2, P3, e3, rfl, hp1, hp2, hp3⟩, ⟨Q1, f1, Q2, f2, Q3, f3, rfl, hq1, hq2, hq3⟩⟩ hb7 H1
        have H2 := (((((H1.add hp1).add hp2).add hp3).add hq1).add hq2).add hq3
        have hbw2 := hbw.trans (hb7.mono hbw.size)
        refine ⟨fun _ => hbw2, ?_⟩
        clear H hbw H1 hp1 hp2 hp3 hq1 hq2 hq3; have H := H2; have hbw := hbw2; clear H2 hbw2
        (apply m_pure (i := 8) rfl (by decide +kernel); intro _; exact rd_go; rfl)
        (apply m_pure (i := 9) rfl (by decide +kernel); intro _; exact rd_go; rfl)
        (apply m_pure (i := 10) rfl (by decide +kernel); intro _; exact rd_go; rfl)
        refine m_two (i := 11) (j := 12) (by kernel_rfl) rfl rfl ?_ ?_
        · refine s_alloc H rfl ?_
          intro w23 b11 hb23 H23
          have hbw2 := hbw.trans (hb23.mono hbw.size)
          refine ⟨fun _ => hbw2, ?_⟩
          clear H hbw; have H := H23; have hbw := hbw2; clear H23 hbw2
          refine m_one (i := 12) (by kernel_rfl) rfl ?_
          · refine s_alloc H rfl ?_
            intro w23 b12 hb23 H23
            have hbw2 := hbw.trans (hb23.mono hbw.size)
            refine ⟨fun _ => hbw2, ?_⟩
            clear H hbw; have H := H23; have hbw := hbw2; clear H23 hbw2
            refine m_one (i := 13) (by kernel_rfl) rfl ?_
            · refine s_storea (i := 1) H ⟨rfl, rfl⟩ rfl ⟨rfl, rfl⟩ rfl rfl rfl ?_
              intro w24 H24
              refine ⟨fun h => (by cases h), ?_⟩
              clear H; have H := H24; clear H24
              refine m_one (i := 14) (by kernel_rfl) rfl ?_
              · refine s_storea (i := 0) H ⟨rfl, rfl⟩ rfl ⟨rfl, rfl⟩ rfl rfl rfl ?_
                intro w24 H24
                refine ⟨fun h => (by cases h), ?_⟩
                clear H; have H := H24; clear H24
                exact m_end (by kernel_rfl) (ct_n ⟨b11, b12, P1, e1, P2, e2, P3, e3, Q1, f1, Q2, f2, Q3, f3, rfl, (H).weak (.cons_cons _ (.cons_cons _ (List.nil_sublist _))) (List.Sublist.refl _) (by simp)⟩)
        · refine s_alloc H rfl ?_
          intro w23 b12 hb23 H23
          have hbw2 := hbw.trans (hb23.mono hbw.size)
          refine ⟨fun _ => hbw2, ?_⟩
          clear H hbw; have H := H23; have hbw := hbw2; clear H23 hbw2
          refine m_one (i := 11) (by kernel_rfl) rfl ?_
          · refine s_alloc H rfl ?_
            intro w23 b11 hb23 H23
            have hbw2 := hbw.trans (hb23.mono hbw.size)
            refine ⟨fun _ => hbw2, ?_⟩
            clear H hbw; have H := H23; have hbw := hbw2; clear H23 hbw2
            refine m_one (i := 13) (by kernel_rfl) rfl ?_
            · refine s_storea (i := 0) H ⟨rfl, rfl⟩ rfl ⟨rfl, rfl⟩ rfl rfl rfl ?_
              intro w24 H24
              refine ⟨fun h => (by cases h), ?_⟩
              clear H; have H := H24; clear H24
              refine m_one (i := 14) (by kernel_rfl) rfl ?_
              · refine s_storea (i := 1) H ⟨rfl, rfl⟩ rfl ⟨rfl, rfl⟩ rfl rfl rfl ?_
                intro w24 H24
                refine ⟨fun h => (by cases h), ?_⟩
                clear H; have H := H24; clear H24
                exact m_end (by kernel_rfl) (ct_n ⟨b11, b12, P1, e1, P2, e2, P3, e3, Q1, f1, Q2, f2, Q3, f3, rfl, (H.permL (List.Perm.swap _ _ _)).weak (.cons_cons _ (.cons_cons _ (List.nil_sublist _))) (List.Sublist.refl _) (by simp)⟩)
      · refine s_alloc H rfl ?_
        intro w23 b11 hb23 H23
        have hbw2 := hbw.trans (hb23.mono hbw.size)
        refine ⟨fun _ => hbw2, ?_⟩
        clear H hbw; have H := H23; have hbw := hbw2; clear H23 hbw2
        refine m_two (i := 7) (j := 12) (by kernel_rfl) rfl rfl ?_ ?_
        · refine k_call evs_auto H (hsd H.mu A27 c27 _ (H.mu_lt hM) (H.fact (Row kVol 1 A27 (imOf s)) mem_auto) (H.fact _ mem_auto) (H.fact _ mem_auto)) rfl ?_
          rintro _ w7 ⟨v7, v8, rfl, ⟨P1, e1, P2, e2, P3, e3, rfl, hp1, hp2, hp3⟩, ⟨Q1, f1, Q2, f2, Q3, f3, rfl, hq1, hq2, hq3⟩⟩ hb7 H1
          have H2 := (((((H1.add hp1).add hp2).add hp3).add hq1).add hq2).add hq3
          have hbw2 := hbw.trans (hb7.mono hbw.size)
          refine ⟨fun _ => hbw2, ?_⟩
          clear H hbw H1 hp1 hp2 hp3 hq1 hq2 hq3; have H := H2; have hbw := hbw2; clear H2 hbw2
          (apply m_pure (i := 8) rfl (by decide +kernel); intro _; exact rd_go; rfl)
          (apply m_pure (i := 9) rfl (by decide +kernel); intro _; exact rd_go; rfl)
          (apply m_pure (i := 10) rfl (by decide +kernel); intro _; exact rd_go; rfl)
          refine m_one (i := 12) (by kernel_rfl) rfl ?_
          · refine s_alloc H rfl ?_
            intro w23 b12 hb23 H23
            have hbw2 := hbw.trans (hb23.mono hbw.size)
            refine ⟨fun _ => hbw2, ?_⟩
            clear H hbw; have H := H23; have hbw := hbw2; clear H23 hbw2
            refine m_one (i := 13) (by kernel_rfl) rfl ?_
            · refine s_storea (i := 1) H ⟨rfl, rfl⟩ rfl ⟨rfl, rfl⟩ rfl rfl rfl ?_
              intro w24 H24
              refine ⟨fun h => (by cases h), ?_⟩
              clear H; have H := H24; clear H24
              refine m_one (i := 14) (by kernel_rfl) rfl ?_
              · refine s_storea (i := 0) H ⟨rfl, rfl⟩ rfl ⟨rfl, rfl⟩ rfl rfl rfl ?_
                intro w24 H24
                refine ⟨fun h => (by cases h), ?_⟩
                clear H; have H := H24; clear H24
                exact m_end (by kernel_rfl) (ct_n ⟨b11, b12, P1, e1, P2, e2, P3, e3, Q1, f1, Q2, f2, Q3, f3, rfl, (H).weak (.cons_cons _ (.cons_cons _ (List.nil_sublist _))) (List.Sublist.refl _) (by simp)⟩)
        · refine s_alloc H rfl ?_
          intro w23 b12 hb23 H23
          have hbw2 := hbw.trans (hb23.mono hbw.size)
          refine ⟨fun _ => hbw2, ?_⟩
          clear H hbw; have H := H23; have hbw := hbw2; clear H23 hbw2
          refine m_one (i := 7) (by kernel_rfl) rfl ?_
          · refine k_call evs_auto H (hsd H.mu A27 c27 _ (H.mu_lt hM) (H.fact (Row kVol 1 A27 (imOf s)) mem_auto) (H.fact _ mem_auto) (H.fact _ mem_auto)) rfl ?_
            rintro _ w7 ⟨v7, v8, rfl, ⟨P1, e1, P2, e2, P3, e3, rfl, hp1, hp2, hp3⟩, ⟨Q1, f1, Q2, f2, Q3, f3, rfl, hq1, hq2, hq3⟩⟩ hb7 H1
            have H2 := (((((H1.add hp1).add hp2).add hp3).add hq1).add hq2).add hq3
            have hbw2 := hbw.trans (hb7.mono hbw.size)
            refine ⟨fun _ => hbw2, ?_⟩
            clear H hbw H1 hp1 hp2 hp3 hq1 hq2 hq3; have H := H2; have hbw := hbw2; clear H2 hbw2
            (apply m_pure (i := 8) rfl (by decide +kernel); intro _; exact rd_go; rfl)
            (apply m_pure (i := 9) rfl (by decide +kernel); intro _; exact rd_go; rfl)
            (apply m_pure (i := 10) rfl (by decide +kernel); intro _; exact rd_go; rfl)
            refine m_one (i := 13) (by kernel_rfl) rfl ?_
            · refine s_storea (i := 1) H ⟨rfl, rfl⟩ rfl ⟨rfl, rfl⟩ rfl rfl rfl ?_
              intro w24 H24
              refine ⟨fun h => (by cases h), ?_⟩
              clear H; have H := H24; clear H24
              refine m_one (i := 14) (by kernel_rfl) rfl ?_
              · refine s_storea (i := 0) H ⟨rfl, rfl⟩ rfl ⟨rfl, rfl⟩ rfl rfl rfl ?_
                intro w24 H24
                refine ⟨fun h => (by cases h), ?_⟩
                clear H; have H := H24; clear H24
                exact m_end (by kernel_rfl) (ct_n ⟨b11, b12, P1, e1, P2, e2, P3, e3, Q1, f1, Q2, f2, Q3, f3, rfl, (H).weak (.cons_cons _ (.cons_cons _ (List.nil_sublist _))) (List.Sublist.refl _) (by simp)⟩)
      · refine s_alloc H rfl ?_
        intro w23 b12 hb23 H23
        have hbw2 := hbw.trans (hb23.mono hbw.size)
        refine ⟨fun _ => hbw2, ?_⟩
        clear H hbw; have H := H23; have hbw := hbw2; clear H23 hbw2
        refine m_two (i := 7) (j := 11) (by kernel_rfl) rfl rfl ?_ ?_
        · refine k_call evs_auto H (hsd H.mu A27 c27 _ (H.mu_lt hM) (H.fact (Row kVol 1 A27 (imOf s)) mem_auto) (H.fact _ mem_auto) (H.fact _ mem_auto)) rfl ?_
          rintro _ w7 ⟨v7, v8, rfl, ⟨P1, e1, P2, e2, P3, e3, rfl, hp1, hp2, hp3⟩, ⟨Q1, f1, Q2, f2, Q3, f3, rfl, hq1, hq2, hq3⟩⟩ hb7 H1
          have H2 := (((((H1.add hp1).add hp2).add hp3).add hq1).add hq2).add hq3
          have hbw2 := hbw.trans (hb7.mono hbw.size)
          refine ⟨fun _ => hbw2, ?_⟩
          clear H hbw H1 hp1 hp2 hp3 hq1 hq2 hq3; have H := H2; have hbw := hbw2; clear H2 hbw2
          (apply m_pure (i := 8) rfl (by decide +kernel); intro _; exact rd_go; rfl)
          (apply m_pure (i := 9) rfl (by decide +kernel); intro _; exact rd_go; rfl)
          (apply m_pure (i := 10) rfl (by decide +kernel); intro _; exact rd_go; rfl)
          refine m_one (i := 11) (by kernel_rfl) rfl ?_
          · refine s_alloc H rfl ?_
            intro w23 b11 hb23 H23
            have hbw2 := hbw.trans (hb23.mono hbw.size)
            refine ⟨fun _ => hbw2, ?_⟩
            clear H hbw; have H := H23; have hbw := hbw2; clear H23 hbw2
            refine m_one (i := 13) (by kernel_rfl) rfl ?_
            · refine s_storea (i := 0) H ⟨rfl, rfl⟩ rfl ⟨rfl, rfl⟩ rfl rfl rfl ?_
              intro w24 H24
              refine ⟨fun h => (by cases h), ?_⟩
              clear H; have H := H24; clear H24
              refine m_one (i := 14) (by kernel_rfl) rfl ?_
              · refine s_storea (i := 1) H ⟨rfl, rfl⟩ rfl ⟨rfl, rfl⟩ rfl rfl rfl ?_
                intro w24 H24
                refine ⟨fun h => (by cases h), ?_⟩
                clear H; have H := H24; clear H24
                exact m_end (by kernel_rfl) (ct_n ⟨b11, b12, P1, e1, P2, e2, P3, e3, Q1, f1, Q2, f2, Q3, f3, rfl, (H.permL (List.Perm.swap _ _ _)).weak (.cons_cons _ (.cons_cons _ (List.nil_sublist _))) (List.Sublist.refl _) (by simp)⟩)
        · refine s_alloc H rfl ?_
          intro w23 b11 hb23 H23
          have hbw2 := hbw.trans (hb23.mono hbw.size)
          refine ⟨fun _ => hbw2, ?_⟩
          clear H hbw; have H := H23; have hbw := hbw2; clear H23 hbw2
          refine m_one (i := 7) (by kernel_rfl) rfl ?_
          · refine k_call evs_auto H (hsd H.mu A27 c27 _ (H.mu_lt hM) (H.fact (Row kVol 1 A27 (imOf s)) mem_auto) (H.fact _ mem_auto) (H.fact _ mem_auto)) rfl ?_
            rintro _ w7 ⟨v7, v8, rfl, ⟨P1, e1, P2, e2, P3, e3, rfl, hp1, hp2, hp3⟩, ⟨Q1, f1, Q2, f2, Q3, f3, rfl, hq1, hq2, hq3⟩⟩ hb7 H1
            have H2 := (((((H1.add hp1).add hp2).add hp3).add hq1).add hq2).add hq3
            have hbw2 := hbw.trans (hb7.mono hbw.size)
            refine ⟨fun _ => hbw2, ?_⟩
            clear H hbw H1 hp1 hp2 hp3 hq1 hq2 hq3; have H := H2; have hbw := hbw2; clear H2 hbw2
            (apply m_pure (i := 8) rfl (by decide +kernel); intro _; exact rd_go; rfl)
            (apply m_pure (i := 9) rfl (by decide +kernel); intro _; exact rd_go; rfl)
            (apply m_pure (i := 10) rfl (by decide +kernel); intro _; exact rd_go; rfl)
            refine m_one (i := 13) (by kernel_rfl) rfl ?_
            · refine s_storea (i := 0) H ⟨rfl, rfl⟩ rfl ⟨rfl, rfl⟩ rfl rfl rfl ?_
              intro w24 H24
              refine ⟨fun h => (by cases h), ?_⟩
              clear H; have H := H24; clear H24
              refine m_one (i := 14) (by kernel_rfl) rfl ?_
              · refine s_storea (i := 1) H ⟨rfl, rfl⟩ rfl ⟨rfl, rfl⟩ rfl rfl rfl ?_
                intro w24 H24
                refine ⟨fun h => (by cases h), ?_⟩
                clear H; have H := H24; clear H24
                exact m_end (by kernel_rfl) (ct_n ⟨b11, b12, P1, e1, P2, e2, P3, e3, Q1, f1, Q2, f2, Q3, f3, rfl, (H.permL (List.Perm.swap _ _ _)).weak (.cons_cons _ (.cons_cons _ (List.nil_sublist _))) (List.Sublist.refl _) (by simp)⟩)
    · refine s_alloc H rfl ?_
      intro w23 b11 hb23 H23
      have hbw2 := hbw.trans (hb23.mono hbw.size)
      refine ⟨fun _ => hbw2, ?_⟩
      clear H hbw; have H := H23; have hbw := hbw2; clear H23 hbw2
      refine m_two (i := 1) (j := 12) (by kernel_rfl) rfl rfl ?_ ?_
      · refine k_call evs_auto H (image_any H.mu s _ (H.mu_lt hM) hs) rfl ?_
        intro v1 w1 hf1 hb1 _
        obtain ⟨A27, c27, hv1, _, _, H1⟩ := H.takeRow hb1 hf1 hM Nat.zero_lt_one himl
        subst hv1
        have hbw2 := hbw.trans (hb1.mono hbw.size)
        refine ⟨fun _ => hbw2, ?_⟩
        clear H hbw hf1; have H := H1; have hbw := hbw2; clear H1 hbw2
        refine m_two (i := 7) (j := 12) (by kernel_rfl) rfl rfl ?_ ?_
        · refine k_call evs_auto H (hsd H.mu A27 c27 _ (H.mu_lt hM) (H.fact (Row kVol 1 A27 (imOf s)) mem_auto) (H.fact _ mem_auto) (H.fact _ mem_auto)) rfl ?_
          rintro _ w7 ⟨v7, v8, rfl, ⟨P1, e1, P2, e2, P3, e3, rfl, hp1, hp2, hp3⟩, ⟨Q1, f1, Q2, f2, Q3, f3, rfl, hq1, hq2, hq3⟩⟩ hb7 H1
          have H2 := (((((H1.add hp1).add hp2).add hp3).add hq1).add hq2).add hq3
          have hbw2 := hbw.trans (hb7.mono hbw.size)
          refine ⟨fun _ => hbw2, ?_⟩
          clear H hbw H1 hp1 hp2 hp3 hq1 hq2 hq3; have H := H2; have hbw := hbw2; clear H2 hbw2
          (apply m_pure (i := 8) rfl (by decide +kernel); intro _; exact rd_go; rfl)
          (apply m_pure (i := 9) rfl (by decide +kernel); intro _; exact rd_go; rfl)
          (apply m_pure (i := 10) rfl (by decide +kernel); intro _; exact rd_go; rfl)
          refine m_one (i := 12) (by kernel_rfl) rfl ?_
          · refine s_alloc H rfl ?_
            intro w23 b12 hb23 H23
            have hbw2 := hbw.trans (hb23.mono hbw.size)
            refine ⟨fun _ => hbw2, ?_⟩
            clear H hbw; have H := H23; have hbw := hbw2; clear H23 hbw2
            refine m_one (i := 13) (by kernel_rfl) rfl ?_
            · refine s_storea (i := 1) H ⟨rfl, rfl⟩ rfl ⟨rfl, rfl⟩ rfl rfl rfl ?_
              intro w24 H24
              refine ⟨fun h => (by cases h), ?_⟩
              clear H; have H := H24; clear H24
              refine m_one (i := 14) (by kernel_rfl) rfl ?_
              · refine s_storea (i := 0) H ⟨rfl, rfl⟩ rfl ⟨rfl, rfl⟩ rfl rfl rfl ?_
                intro w24 H24
                refine ⟨fun h => (by cases h), ?_⟩
                clear H; have H := H24; clear H24
                exact m_end (by kernel_rfl) (ct_n ⟨b11, b12, P1, e1, P2, e2, P3, e3, Q1, f1, Q2, f2, Q3, f3, rfl, (H).weak (.cons_cons _ (.cons_cons _ (List.nil_sublist _))) (List.Sublist.refl _) (by simp)⟩)
        · refine s_alloc H rfl ?_
          intro w23 b12 hb23 H23
          have hbw2 := hbw.trans (hb23.mono hbw.size)
          refine ⟨fun _ => hbw2, ?_⟩
          clear H hbw; have H := H23; have hbw := hbw2; clear H23 hbw2
          refine m_one (i := 7) (by kernel_rfl) rfl ?_
          · refine k_call evs_auto H (hsd H.mu A27 c27 _ (H.mu_lt hM) (H.fact (Row kVol 1 A27 (imOf s)) mem_auto) (H.fact _ mem_auto) (H.fact _ mem_auto)) rfl ?_
            rintro _ w7 ⟨v7, v8, rfl, ⟨P1, e1, P2, e2, P3, e3, rfl, hp1, hp2, hp3⟩, ⟨Q1, f1, Q2, f2, Q3, f3, rfl, hq1, hq2, hq3⟩⟩ hb7 H1
            have H2 := (((((H1.add hp1).add hp2).add hp3).add hq1).add hq2).add hq3
            have hbw2 := hbw.trans (hb7.mono hbw.size)
            refine ⟨fun _ => hbw2, ?_⟩
            clear H hbw H1 hp1 hp2 hp3 hq1 hq2 hq3; have H := H2; have hbw := hbw2; clear H2 hbw2
            (apply m_pure (i := 8) rfl (by decide +kernel); intro _; exact rd_go; rfl)
            (apply m_pure (i := 9) rfl (by decide +kernel); intro _; exact rd_go; rfl)
            (apply m_pure (i := 10) rfl (by decide +kernel); intro _; exact rd_go; rfl)
            refine m_one (i := 13) (by kernel_rfl) rfl ?_
            · refine s_storea (i := 1) H ⟨rfl, rfl⟩ rfl ⟨rfl, rfl⟩ rfl rfl rfl ?_
              intro w24 H24
              refine ⟨fun h => (by cases h), ?_⟩
              clear H; have H := H24; clear H24
              refine m_one (i := 14) (by kernel_rfl) rfl ?_
              · refine s_storea (i := 0) H ⟨rfl, rfl⟩ rfl ⟨rfl, rfl⟩ rfl rfl rfl ?_
                intro w24 H24
                refine ⟨fun h => (by cases h), ?_⟩
                clear H; have H := H24; clear H24
                exact m_end (by kernel_rfl) (ct_n ⟨b11, b12, P1, e1, P2, e2, P3, e3, Q1, f1, Q2, f2, Q3, f3, rfl, (H).weak (.cons_cons _ (.cons_cons _ (List.nil_sublist _))) (List.Sublist.refl _) (by simp)⟩)
      · refine s_alloc H rfl ?_
        intro w23 b12 hb23 H23
        have hbw2 := hbw.trans (hb23.mono hbw.size)
        refine ⟨fun _ => hbw2, ?_⟩
        clear H hbw; have H := H23; have hbw := hbw2; clear H23 hbw2
        refine m_one (i := 1) (by kernel_rfl) rfl ?_
        · refine k_call evs_auto H (image_any H.mu s _ (H.mu_lt hM) hs) rfl ?_
          intro v1 w1 hf1 hb1 _
          obtain ⟨A27, c27, hv1, _, _, H1⟩ := H.takeRow hb1 hf1 hM Nat.zero_lt_one himl
          subst hv1
          have hbw2 := hbw.trans (hb1.mono hbw.size)
          refine ⟨fun _ => hbw2, ?_⟩
          clear H hbw hf1; have H := H1; have hbw := hbw2; clear H1 hbw2
          refine m_one (i := 7) (by kernel_rfl) rfl ?_
          · refine k_call evs_auto H (hsd H.mu A27 c27 _ (H.mu_lt hM) (H.fact (Row kVol 1 A27 (imOf s)) mem_auto) (H.fact _ mem_auto) (H.fact _ mem_auto)) rfl ?_
            rintro _ w7 ⟨v7, v8, rfl, ⟨P1, e1, P2, e2, P3, e3, rfl, hp1, hp2, hp3⟩, ⟨Q1, f1, Q2, f2, Q3, f3, rfl, hq1, hq2, hq3⟩⟩ hb7 H1
            have H2 := (((((H1.add hp1).add hp2).add hp3).add hq1).add hq2).add hq3
            have hbw2 := hbw.trans (hb7.mono hbw.size)
            refine ⟨fun _ => hbw2, ?_⟩
            clear H hbw H1 hp1 hp2 hp3 hq1 hq2 hq3; have H := H2; have hbw := hbw2; clear H2 hbw2
            (apply m_pure (i := 8) rfl (by decide +kernel); intro _; exact rd_go; rfl)
            (apply m_pure (i := 9) rfl (by decide +kernel); intro _; exact rd_go; rfl)
            (apply m_pure (i := 10) rfl (by decide +kernel); intro _; exact rd_go; rfl)
            refine m_one (i := 13) (by kernel_rfl) rfl ?_
            · refine s_storea (i := 1) H ⟨rfl, rfl⟩ rfl ⟨rfl, rfl⟩ rfl rfl rfl ?_
              intro w24 H24
              refine ⟨fun h => (by cases h), ?_⟩
              clear H; have H := H24; clear H24
              refine m_one (i := 14) (by kernel_rfl) rfl ?_
              · refine s_storea (i := 0) H ⟨rfl, rfl⟩ rfl ⟨rfl, rfl⟩ rfl rfl rfl ?_
                intro w24 H24
                refine ⟨fun h => (by cases h), ?_⟩
                clear H; have H := H24; clear H24
                exact m_end (by kernel_rfl) (ct_n ⟨b11, b12, P1, e1, P2, e2, P3, e3, Q1, f1, Q2, f2, Q3, f3, rfl, (H).weak (.cons_cons _ (.cons_cons _ (List.nil_sublist _))) (List.Sublist.refl _) (by simp)⟩)
    · refine s_alloc H rfl ?_
      intro w23 b12 hb23 H23
      have hbw2 := hbw.trans (hb23.mono hbw.size)
      refine ⟨fun _ => hbw2, ?_⟩
      clear H hbw; have H := H23; have hbw := hbw2; clear H23 hbw2
      refine m_two (i := 1) (j := 11) (by kernel_rfl) rfl rfl ?_ ?_
      · refine k_call evs_auto H (image_any H.mu s _ (H.mu_lt hM) hs) rfl ?_
        intro v1 w1 hf1 hb1 _
        obtain ⟨A27, c27, hv1, _, _, H1⟩ := H.takeRow hb1 hf1 hM Nat.zero_lt_one himl
        subst hv1
        have hbw2 := hbw.trans (hb1.mono hbw.size)
        refine ⟨fun _ => hbw2, ?_⟩
        clear H hbw hf1; have H := H1; have hbw := hbw2; clear H1 hbw2
        refine m_two (i := 7) (j := 11) (by kernel_rfl) rfl rfl ?_ ?_
        · refine k_call evs_auto H (hsd H.mu A27 c27 _ (H.mu_lt hM) (H.fact (Row kVol 1 A27 (imOf s)) mem_auto) (H.fact _ mem_auto) (H.fact _ mem_auto)) rfl ?_
          rintro _ w7 ⟨v7, v8, rfl, ⟨P1, e1, P2, e2, P3, e3, rfl, hp1, hp2, hp3⟩, ⟨Q1, f1, Q2, f2, Q3, f3, rfl, hq1, hq2, hq3⟩⟩ hb7 H1
          have H2 := (((((H1.add hp1).add hp2).add hp3).add hq1).add hq2).add hq3
          have hbw2 := hbw.trans (hb7.mono hbw.size)
          refine ⟨fun _ => hbw2, ?_⟩
          clear H hbw H1 hp1 hp2 hp3 hq1 hq2 hq3; have H := H2; have hbw := hbw2; clear H2 hbw2
          (apply m_pure (i := 8) rfl (by decide +kernel); intro _; exact rd_go; rfl)
          (apply m_pure (i := 9) rfl (by decide +kernel); intro _; exact rd_go; rfl)
          (apply m_pure (i := 10) rfl (by decide +kernel); intro _; exact rd_go; rfl)
          refine m_one (i := 11) (by kernel_rfl) rfl ?_
          · refine s_alloc H rfl ?_
            intro w23 b11 hb23 H23
            have hbw2 := hbw.trans (hb23.mono hbw.size)
            refine ⟨fun _ => hbw2, ?_⟩
            clear H hbw; have H := H23; have hbw := hbw2; clear H23 hbw2
            refine m_one (i := 13) (by kernel_rfl) rfl ?_
            · refine s_storea (i := 0) H ⟨rfl, rfl⟩ rfl ⟨rfl, rfl⟩ rfl rfl rfl ?_
              intro w24 H24
              refine ⟨fun h => (by cases h), ?_⟩
              clear H; have H := H24; clear H24
              refine m_one (i := 14) (by kernel_rfl) rfl ?_
              · refine s_storea (i := 1) H ⟨rfl, rfl⟩ rfl ⟨rfl, rfl⟩ rfl rfl rfl ?_
                intro w24 H24
                refine ⟨fun h => (by cases h), ?_⟩
                clear H; have H := H24; clear H24
                exact m_end (by kernel_rfl) (ct_n ⟨b11, b12, P1, e1, P2, e2, P3, e3, Q1, f1, Q2, f2, Q3, f3, rfl, (H.permL (List.Perm.swap _ _ _)).weak (.cons_cons _ (.cons_cons _ (List.nil_sublist _))) (List.Sublist.refl _) (by simp)⟩)
        · refine s_alloc H rfl ?_
          intro w23 b11 hb23 H23
          have hbw2 := hbw.trans (hb23.mono hbw.size)
          refine ⟨fun _ => hbw2, ?_⟩
          clear H hbw; have H := H23; have hbw := hbw2; clear H23 hbw2
          refine m_one (i := 7) (by kernel_rfl) rfl ?_
          · refine k_call evs_auto H (hsd H.mu A27 c27 _ (H.mu_lt hM) (H.fact (Row kVol 1 A27 (imOf s)) mem_auto) (H.fact _ mem_auto) (H.fact _ mem_auto)) rfl ?_
            rintro _ w7 ⟨v7, v8, rfl, ⟨P1, e1, P2, e2, P3, e3, rfl, hp1, hp2, hp3⟩, ⟨Q1, f1, Q2, f2, Q3, f3, rfl, hq1, hq2, hq3⟩⟩ hb7 H1
            have H2 := (((((H1.add hp1).add hp2).add hp3).add hq1).add hq2).add hq3
            have hbw2 := hbw.trans (hb7.mono hbw.size)
            refine ⟨fun _ => hbw2, ?_⟩
            clear H hbw H1 hp1 hp2 hp3 hq1 hq2 hq3; have H := H2; have hbw := hbw2; clear H2 hbw2
            (apply m_pure (i := 8) rfl (by decide +kernel); intro _; exact rd_go; rfl)
            (apply m_pure (i := 9) rfl (by decide +kernel); intro _; exact rd_go; rfl)
            (apply m_pure (i := 10) rfl (by decide +kernel); intro _; exact rd_go; rfl)
            refine m_one (i := 13) (by kernel_rfl) rfl ?_
            · refine s_storea (i := 0) H ⟨rfl, rfl⟩ rfl ⟨rfl, rfl⟩ rfl rfl rfl ?_
              intro w24 H24
              refine ⟨fun h => (by cases h), ?_⟩
              clear H; have H := H24; clear H24
              refine m_one (i := 14) (by kernel_rfl) rfl ?_
              · refine s_storea (i := 1) H ⟨rfl, rfl⟩ rfl ⟨rfl, rfl⟩ rfl rfl rfl ?_
                intro w24 H24
                refine ⟨fun h => (by cases h), ?_⟩
                clear H; have H := H24; clear H24
                exact m_end (by kernel_rfl) (ct_n ⟨b11, b12, P1, e1, P2, e2, P3, e3, Q1, f1, Q2, f2, Q3, f3, rfl, (H.permL (List.Perm.swap _ _ _)).weak (.cons_cons _ (.cons_cons _ (List.nil_sublist _))) (List.Sublist.refl _) (by simp)⟩)
      · refine s_alloc H rfl ?_
        intro w23 b11 hb23 H23
        have hbw2 := hbw.trans (hb23.mono hbw.size)
        refine ⟨fun _ => hbw2, ?_⟩
        clear H hbw; have H := H23; have hbw := hbw2; clear H23 hbw2
        refine m_one (i := 1) (by kernel_rfl) rfl ?_
        · refine k_call evs_auto H (image_any H.mu s _ (H.mu_lt hM) hs) rfl ?_
          intro v1 w1 hf1 hb1 _
          obtain ⟨A27, c27, hv1, _, _, H1⟩ := H.takeRow hb1 hf1 hM Nat.zero_lt_one himl
          subst hv1
          have hbw2 := hbw.trans (hb1.mono hbw.size)
          refine ⟨fun _ => hbw2, ?_⟩
          clear H hbw hf1; have H := H1; have hbw := hbw2; clear H1 hbw2
          refine m_one (i := 7) (by kernel_rfl) rfl ?_
          · refine k_call evs_auto H (hsd H.mu A27 c27 _ (H.mu_lt hM) (H.fact (Row kVol 1 A27 (imOf s)) mem_auto) (H.fact _ mem_auto) (H.fact _ mem_auto)) rfl ?_
            rintro _ w7 ⟨v7, v8, rfl, ⟨P1, e1, P2, e2, P3, e3, rfl, hp1, hp2, hp3⟩, ⟨Q1, f1, Q2, f2, Q3, f3, rfl, hq1, hq2, hq3⟩⟩ hb7 H1
            have H2 := (((((H1.add hp1).add hp2).add hp3).add hq1).add hq2).add hq3
            have hbw2 := hbw.trans (hb7.mono hbw.size)
            refine ⟨fun _ => hbw2, ?_⟩
            clear H hbw H1 hp1 hp2 hp3 hq1 hq2 hq3; have H := H2; have hbw := hbw2; clear H2 hbw2
            (apply m_pure (i := 8) rfl (by decide +kernel); intro _; exact rd_go; rfl)
            (apply m_pure (i := 9) rfl (by decide +kernel); intro _; exact rd_go; rfl)
            (apply m_pure (i := 10) rfl (by decide +kernel); intro _; exact rd_go; rfl)
            refine m_one (i := 13) (by kernel_rfl) rfl ?_
            · refine s_storea (i := 0) H ⟨rfl, rfl⟩ rfl ⟨rfl, rfl⟩ rfl rfl rfl ?_
              intro w24 H24
              refine ⟨fun h => (by cases h), ?_⟩
              clear H; have H := H24; clear H24
              refine m_one (i := 14) (by kernel_rfl) rfl ?_
              · refine s_storea (i := 1) H ⟨rfl, rfl⟩ rfl ⟨rfl, rfl⟩ rfl rfl rfl ?_
                intro w24 H24
                refine ⟨fun h => (by cases h), ?_⟩
                clear H; have H := H24; clear H24
                exact m_end (by kernel_rfl) (ct_n ⟨b11, b12, P1, e1, P2, e2, P3, e3, Q1, f1, Q2, f2, Q3, f3, rfl, (H.permL (List.Perm.swap _ _ _)).weak (.cons_cons _ (.cons_cons _ (List.nil_sublist _))) (List.Sublist.refl _) (by simp)⟩)
  clear H
  rintro _ E0 w6 ⟨b7, b8, P1, e1, P2, e2, P3, e3, Q1, f1, Q2, f2, Q3, f3, rfl, H⟩
  simp only [rng] at hc
  repeat' (first | (apply l_rd; exact rd_go; rfl) | (apply q_rd; exact rd_go; rfl) | refine stp ?_ | refine bk_o rfl ?_ | refine c_true ⟨rfl, rfl⟩ ?_ | refine c_false ⟨rfl, rfl⟩ ?_ | (apply l_rdg; rfl; rfl; rfl; exact rd_go; rfl) | refine l_skip rfl rfl rfl rfl ?_ | (apply q_rdg; rfl; rfl; rfl; exact rd_go; rfl) | refine q_skip rfl rfl rfl rfl ?_ | (refine q_end ?_; clear H; intro _ H) | ((first | refine l_st (z_box H ?_) | refine l_st (s_alloc H rfl ?_)); clear H; intro _ _ _ H) | (refine l_st (t_build0 H rfl ?_); clear H; intro _ _ _ _ H) | (refine l_st (z_sto H ?_); clear H; intro _ H) | ((first | refine c_cond ⟨rfl, rfl⟩ ?_ ?_ | refine c_ncond ⟨rfl, rfl⟩ ?_ ?_ | refine l_split rfl rfl ?_ ?_ | refine q_split rfl rfl ?_ ?_ | refine l_nsplit rfl rfl ?_ ?_ | refine q_nsplit rfl rfl ?_ ?_) <;> intro _ <;> try (exfalso; omega)) | (refine l_st (k_call1 evs_auto H ca_Lu3 rfl ?_); clear H; intro _ _ H) | (refine l_st (k_callg1 evs_auto rfl rfl rfl H ca_Lu3 rfl ?_); clear H; intro _ _ H) | refine kq_call1 evs_auto H (fun _ H => ca_Lu3) rfl ?_ | refine kq_callg1 evs_auto rfl rfl rfl H (fun _ H => ca_Lu3) rfl ?_)
  refine l_rd (rd_rem (c := common % 5) ⟨rfl, rfl⟩ ⟨rfl, rfl⟩ (by decide) (Int.tmod_eq_emod_of_nonneg hc.1)) rfl ?_
  repeat' (first | (apply l_rd; exact rd_go; rfl) | (apply q_rd; exact rd_go; rfl) | refine stp ?_ | refine bk_o rfl ?_ | refine c_true ⟨rfl, rfl⟩ ?_ | refine c_false ⟨rfl, rfl⟩ ?_ | (apply l_rdg; rfl; rfl; rfl; exact rd_go; rfl) | refine l_skip rfl rfl rfl rfl ?_ | (apply q_rdg; rfl; rfl; rfl; exact rd_go; rfl) | refine q_skip rfl rfl rfl rfl ?_ | (refine q_end ?_; clear H; intro _ H) | ((first | refine l_st (z_box H ?_) | refine l_st (s_alloc H rfl ?_)); clear H; intro _ _ _ H) | (refine l_st (t_build0 H rfl ?_); clear H; intro _ _ _ _ H) | (refine l_st (z_sto H ?_); clear H; intro _ H) | ((first | refine c_cond ⟨rfl, rfl⟩ ?_ ?_ | refine c_ncond ⟨rfl, rfl⟩ ?_ ?_ | refine l_split rfl rfl ?_ ?_ | refine q_split rfl rfl ?_ ?_ | refine l_nsplit rfl rfl ?_ ?_ | refine q_nsplit rfl rfl ?_ ?_) <;> intro _ <;> try (exfalso; omega)) | (refine l_st (k_call1 evs_auto H ca_Lu3 rfl ?_); clear H; intro _ _ H) | (refine l_st (k_callg1 evs_auto rfl rfl rfl H ca_Lu3 rfl ?_); clear H; intro _ _ H) | refine kq_call1 evs_auto H (fun _ H => ca_Lu3) rfl ?_ | refine kq_callg1 evs_auto rfl rfl rfl H (fun _ H => ca_Lu3) rfl ?_)
  refine l_st (t_slice (cs := [.int .i64 4]) [_] H evp_auto rfl rfl rfl rfl rfl rfl rfl ?_)
  clear H; intro A4 c4 w7 _ _ H
  obtain ⟨s1, s2, H1⟩ := H.seal1 (dd := kInt .i64) (x := 4) (fun _ _ _ => ⟨rfl, by decide⟩) rfl hM (by decide)
  clear H; have H := H1; clear H1
  repeat' (first | (apply l_rd; exact rd_go; rfl) | (apply q_rd; exact rd_go; rfl) | refine stp ?_ | refine bk_o rfl ?_ | refine c_true ⟨rfl, rfl⟩ ?_ | refine c_false ⟨rfl, rfl⟩ ?_ | (apply l_rdg; rfl; rfl; rfl; exact rd_go; rfl) | refine l_skip rfl rfl rfl rfl ?_ | (apply q_rdg; rfl; rfl; rfl; exact rd_go; rfl) | refine q_skip rfl rfl rfl rfl ?_ | (refine q_end ?_; clear H; intro _ H) | ((first | refine l_st (z_box H ?_) | refine l_st (s_alloc H rfl ?_)); clear H; intro _ _ _ H) | (refine l_st (t_build0 H rfl ?_); clear H; intro _ _ _ _ H) | (refine l_st (z_sto H ?_); clear H; intro _ H) | ((first | refine c_cond ⟨rfl, rfl⟩ ?_ ?_ | refine c_ncond ⟨rfl, rfl⟩ ?_ ?_ | refine l_split rfl rfl ?_ ?_ | refine q_split rfl rfl ?_ ?_ | refine l_nsplit rfl rfl ?_ ?_ | refine q_nsplit rfl rfl ?_ ?_) <;> intro _ <;> try (exfalso; omega)) | (refine l_st (k_call1 evs_auto H ca_Lu3 rfl ?_); clear H; intro _ _ H) | (refine l_st (k_callg1 evs_auto rfl rfl rfl H ca_Lu3 rfl ?_); clear H; intro _ _ H) | refine kq_call1 evs_auto H (fun _ H => ca_Lu3) rfl ?_ | refine kq_callg1 evs_auto rfl rfl rfl H (fun _ H => ca_Lu3) rfl ?_)
  have hcc := cycle_any H.mu _ (H.mu_lt hM) p q P1 P2 P3 Q1 Q2 Q3 A4 e1 e2 e3 f1 f2 f3 c4 (by rw [hps]; decide) (by omega) (by omega) (by rw [hqs]; decide) (by omega) (by omega) (nOf common + 2) 9 [4] (by decide) (H.fact _ mem_auto) (H.fact _ mem_auto) (H.fact _ mem_auto) (H.fact _ mem_auto) (H.fact _ mem_auto) (H.fact _ mem_auto) (H.fact _ mem_auto) (H.fact _ mem_auto)
  rw [hcy] at hcc
  refine l_st (k_call evs_auto H hcc rfl ?_)
  rintro v0 w8 ⟨v1, v2, hv0, hf1, hf2⟩ hb H1
  obtain ⟨A5, c5, hv1, _, _, hr1⟩ := Fresh.row (xs := y.pos) hf1 (H.mu_lt hM) Nat.zero_lt_one (by rw [hyp]; decide)
  obtain ⟨A6, c6, hv2, _, _, hr2⟩ := Fresh.row (xs := y.writes) hf2 (H.mu_lt hM) (by decide) (by show y.writes.length ≤ _; omega)
  subst hv1; subst hv2
  obtain rfl : v0 = .tuple #[.agg [.int .i64 y.base, .int .i64 y.number, .int .i64 y.time, .slice A5 y.pos.length c5, .slice A6 y.writes.length c6].toArray, .int .i64 0] := hv0
  have H2 := (H1.add hr1).add hr2
  clear hcc hf1 hf2 hr1 hr2 H H1; have H := H2; clear H2
  repeat' (first | (apply l_rd; exact rd_go; rfl) | (apply q_rd; exact rd_go; rfl) | refine stp ?_ | refine bk_o rfl ?_ | refine c_true ⟨rfl, rfl⟩ ?_ | refine c_false ⟨rfl, rfl⟩ ?_ | (apply l_rdg; rfl; rfl; rfl; exact rd_go; rfl) | refine l_skip rfl rfl rfl rfl ?_ | (apply q_rdg; rfl; rfl; rfl; exact rd_go; rfl) | refine q_skip rfl rfl rfl rfl ?_ | (refine q_end ?_; clear H; intro _ H) | ((first | refine l_st (z_box H ?_) | refine l_st (s_alloc H rfl ?_)); clear H; intro _ _ _ H) | (refine l_st (t_build0 H rfl ?_); clear H; intro _ _ _ _ H) | (refine l_st (z_sto H ?_); clear H; intro _ H) | ((first | refine c_cond ⟨rfl, rfl⟩ ?_ ?_ | refine c_ncond ⟨rfl, rfl⟩ ?_ ?_ | refine l_split rfl rfl ?_ ?_ | refine q_split rfl rfl ?_ ?_ | refine l_nsplit rfl rfl ?_ ?_ | refine q_nsplit rfl rfl ?_ ?_) <;> intro _ <;> try (exfalso; omega)) | (refine l_st (k_call1 evs_auto H ca_Lu3 rfl ?_); clear H; intro _ _ H) | (refine l_st (k_callg1 evs_auto rfl rfl rfl H ca_Lu3 rfl ?_); clear H; intro _ _ H) | refine kq_call1 evs_auto H (fun _ H => ca_Lu3) rfl ?_ | refine kq_callg1 evs_auto rfl rfl rfl H (fun _ H => ca_Lu3) rfl ?_)
  have hap := cycApply_any H.mu p.im y P3 A5 A6 e3 c5 c6 _ (H.mu_lt hM) (by omega) (H.fact _ mem_auto) (H.fact _ mem_auto) (H.fact _ mem_auto)
  rw [hcap] at hap
  refine l_st (k_call evs_auto H hap rfl ?_)
  rintro v0 w9 ⟨v3, hv3, hf⟩ hb _
  obtain rfl : v0 = .tuple #[v3, .int .i64 0] := hv3
  have hqi := im_ok (H.fact (Row kVol 1 Q3 q.im) mem_auto)
  have hqv := vol_len (H.fact (Row kVol 1 Q3 q.im) mem_auto)
  obtain ⟨A7, c7, cs, hv, hcs, H1⟩ := H.takeG (im := q.im) hb hf
  subst hv
  obtain ⟨s3, s4, H2⟩ := H1.sealG (dd := kSec) hM (by decide) rfl hcs gSec_len (fun w' l hl x hx => (hqi l hl x hx).k w') ⟨by omega, hqv⟩
  clear H H1 hf hap; have H := H2; clear H2
  repeat' (first | (apply l_rd; exact rd_go; rfl) | (apply q_rd; exact rd_go; rfl) | refine stp ?_ | refine bk_o rfl ?_ | refine c_true ⟨rfl, rfl⟩ ?_ | refine c_false ⟨rfl, rfl⟩ ?_ | (apply l_rdg; rfl; rfl; rfl; exact rd_go; rfl) | refine l_skip rfl rfl rfl rfl ?_ | (apply q_rdg; rfl; rfl; rfl; exact rd_go; rfl) | refine q_skip rfl rfl rfl rfl ?_ | (refine q_end ?_; clear H; intro _ H) | ((first | refine l_st (z_box H ?_) | refine l_st (s_alloc H rfl ?_)); clear H; intro _ _ _ H) | (refine l_st (t_build0 H rfl ?_); clear H; intro _ _ _ _ H) | (refine l_st (z_sto H ?_); clear H; intro _ H) | ((first | refine c_cond ⟨rfl, rfl⟩ ?_ ?_ | refine c_ncond ⟨rfl, rfl⟩ ?_ ?_ | refine l_split rfl rfl ?_ ?_ | refine q_split rfl rfl ?_ ?_ | refine l_nsplit rfl rfl ?_ ?_ | refine q_nsplit rfl rfl ?_ ?_) <;> intro _ <;> try (exfalso; omega)) | (refine l_st (k_call1 evs_auto H ca_Lu3 rfl ?_); clear H; intro _ _ H) | (refine l_st (k_callg1 evs_auto rfl rfl rfl H ca_Lu3 rfl ?_); clear H; intro _ _ H) | refine kq_call1 evs_auto H (fun _ H => ca_Lu3) rfl ?_ | refine kq_callg1 evs_auto rfl rfl rfl H (fun _ H => ca_Lu3) rfl ?_)
  have hsi := rSameIm_any _ q.im q.im A7 Q3 c7 f3 _ (H.fact (Row kVol 1 A7 q.im) mem_auto) (H.fact (Row kVol 1 Q3 q.im) mem_auto)
  rw [decide_eq_true rfl] at hsi
  refine l_st (k_callg1 evs_auto rfl rfl rfl H hsi rfl ?_)
  clear H hsi; intro _ _ H
  repeat' (first | (apply l_rd; exact rd_go; rfl) | (apply q_rd; exact rd_go; rfl) | refine stp ?_ | refine bk_o rfl ?_ | refine c_true ⟨rfl, rfl⟩ ?_ | refine c_false ⟨rfl, rfl⟩ ?_ | (apply l_rdg; rfl; rfl; rfl; exact rd_go; rfl) | refine l_skip rfl rfl rfl rfl ?_ | (apply q_rdg; rfl; rfl; rfl; exact rd_go; rfl) | refine q_skip rfl rfl rfl rfl ?_ | (refine q_end ?_; clear H; intro _ H) | ((first | refine l_st (z_box H ?_) | refine l_st (s_alloc H rfl ?_)); clear H; intro _ _ _ H) | (refine l_st (t_build0 H rfl ?_); clear H; intro _ _ _ _ H) | (refine l_st (z_sto H ?_); clear H; intro _ H) | ((first | refine c_cond ⟨rfl, rfl⟩ ?_ ?_ | refine c_ncond ⟨rfl, rfl⟩ ?_ ?_ | refine l_split rfl rfl ?_ ?_ | refine q_split rfl rfl ?_ ?_ | refine l_nsplit rfl rfl ?_ ?_ | refine q_nsplit rfl rfl ?_ ?_) <;> intro _ <;> try (exfalso; omega)) | (refine l_st (k_call1 evs_auto H ca_Lu3 rfl ?_); clear H; intro _ _ H) | (refine l_st (k_callg1 evs_auto rfl rfl rfl H ca_Lu3 rfl ?_); clear H; intro _ _ H) | refine kq_call1 evs_auto H (fun _ H => ca_Lu3) rfl ?_ | refine kq_callg1 evs_auto rfl rfl rfl H (fun _ H => ca_Lu3) rfl ?_)
  exact ret1 H rfl rfl rfl rfl
end Go.Proofs.YtiolpldihoghiaaDoor

namespace Go.Proofs.YtiolpldihoghiaaDoor
open Go.RowKit Go.ChangeShapes Go.WideShapes
set_option linter.unusedVariables false
set_option linter.unusedSimpArgs false
set_option maxRecDepth 100000
def kWr2 : Rp (List Wr × List Wr) := fun w x cs => ∃ A1 c1 A2 c2, cs = [.slice A1 x.1.length c1, .slice A2 x.2.length c2] ∧ Row kWr 3 A1 x.1 w ∧ Row kWr 3 A2 x.2 w
theorem opWr2 : Opens Tryd.prog 52 2 kWr2 := by
  intro H enc w fuel cs x h hw
  have hl := opLen (t := 52) (sz := 2) (by kernel_rfl) (by kernel_rfl) h hw
  obtain ⟨_, hall⟩ := open_items (len := 2) (e := 43) (by kernel_rfl) h hw
  have hc : Tryd.prog.cellsOf 43 = 1 := by kernel_rfl
  obtain ⟨y0, m0', h0, k0⟩ := hall 0 (by decide)
  obtain ⟨y1, m1', h1, k1⟩ := hall 1 (by decide)
  rw [hc] at h0 h1
  obtain ⟨l0, A0, c0, e0, _, _, q0⟩ := op1 opWrs h0 k0
  obtain ⟨l1, A1, c1, e1, _, _, q1⟩ := op1 opWrs h1 k1
  obtain ⟨u, v, rfl⟩ := len2 hl
  simp at e0 e1; subst e0; subst e1
  exact ⟨rfl, ⟨l0, l1⟩, A0, c0, A1, c1, rfl, q0, q1⟩
section
variable {H : Type} {enc : TypeId × Value → H} {W : World} {base : Nat}
/-- An argument that is an array. -/
theorem argArr {α : Type} {t sz : Nat} {rep : Rp α} {v : Value} {d : DataW H} {p : List MemPlace} (hop : Opens Tryd.prog t sz rep) (hs : (match Tryd.prog.underlying t with | some (.array _ _) => true | _ => false) = true) (hok : Value.okWide Tryd.prog W .any base t v)
    (ht : DataW.Trod enc Tryd.prog W 0 (fun _ => true) true t v d p) (hw : ∀ n ∈ d.weights Tryd.prog t, n ≤ reachBytes) : ∃ x cs, v = .agg (List.toArray cs) ∧ rep W x cs := by
  split at hs
  · rename_i k e hu
    simp only [Value.okWide, hu] at hok
    obtain ⟨cs, rfl, _⟩ := hok
    obtain ⟨n, h⟩ := ht
    obtain ⟨_, x, hx⟩ := hop H enc W n _ _ h hw
    exact ⟨x, cs.toList, rfl, hx⟩
  · cases hs
end
end Go.Proofs.YtiolpldihoghiaaDoor

namespace Go.Proofs.YtiolpldihoghiaaDoor
open Go.RowKit Go.ChangeShapes Go.WideShapes
set_option linter.unusedVariables false
set_option linter.unusedSimpArgs false
set_option maxRecDepth 100000
theorem restores_met (os : Os) (args : Array Value) : laidMetH Tryd.prog [("math/bits.deBruijn64tab", Rows.laid_math_bits_deBruijn64tab)] ((World.doorLaid Tryd.prog 400 os).forCall (fun _ _ => 0) ⟨#[], args, []⟩).memory := by
  rw [MakeChecks.laidMetH_plain _ _ _ (by kernel_rfl)]
  exact laidMet_of_run' 8 (by kernel_rfl) (by kernel_rfl)
theorem restores_lifted (os : Os) (started : os.Started) (H : Type) (enc : TypeId × Value → H) :
    ReturnsInHanded {} Tryd.checked os 5 .any (fun w args => (Rows.reverseRestoresSpec.pre enc Tryd.prog Tryd.f5 [] false w args ∧ laidMetH Tryd.prog [("math/bits.deBruijn64tab", Rows.laid_math_bits_deBruijn64tab)] w) ∧ sizedMet enc Tryd.prog Tryd.f5 (OpenSpec.ofChange Rows.reverseRestoresSpec) false w args)
      (Rows.reverseRestoresSpec.post enc Tryd.prog Tryd.f5 false true false false) := by
  refine returnsInHanded_of_change_and (C := Tryd.checked) (X := fun w _ => laidMetH Tryd.prog [("math/bits.deBruijn64tab", Rows.laid_math_bits_deBruijn64tab)] w) (fun _ _ _ hh h => h.of_heap hh) own_knob started (by kernel_rfl) Tryd.func5
    (ChangeSpec.witness_shaped (enc := enc) (C := Tryd.checked) (os := os) (X := fun w _ => laidMetH Tryd.prog [("math/bits.deBruijn64tab", Rows.laid_math_bits_deBruijn64tab)] w) false (World.doorLaid Tryd.prog 400 os) #[.int .u8 0, .int .u8 0, .agg #[.slice none 0 0, .slice none 0 0]] 8 rfl (World.shaped_of_RefB (by kernel_rfl) (by kernel_rfl)) (by kernel_rfl) (by kernel_rfl) (by kernel_rfl) (restores_met os _)) ?_
  intro W base args ds gs before hval0 hW hcond hsz hL hh
  have hval : ∀ (j : Nat) t v, Tryd.f5.params[j]? = some t → args[j]? = some v → Value.okWide Tryd.prog W .any base t v := hval0
  obtain ⟨pa, pv, hA0, hV0, hps, _, _⟩ := id hW
  have hA1 : DataW.TrodAll enc Tryd.prog W 0 (fun _ => true) true Tryd.f5.params.toList args.toList ds pa := hA0
  have hV : DataW.TrodVars enc Tryd.prog W (fun _ => true) [] gs pv := hV0
  obtain ⟨rfl, rfl⟩ := trodVars_none hV
  have hA := hA1
  rw [Tryd.params5] at hA hval
  obtain ⟨v0, v1, v2, d0, d1, d2, p0, p1, p2, rfl, rfl, rfl, t0, t1, t2⟩ := trodAll_three hA
  obtain ⟨s, rfl, hs⟩ := argInt (k := .u8) (by kernel_rfl) (hval 0 _ v0 rfl rfl) t0
  obtain ⟨cm, rfl, hcm⟩ := argInt (k := .u8) (by kernel_rfl) (hval 1 _ v1 rfl rfl) t1
  obtain ⟨⟨l1, l2⟩, _, rfl, A1, c1, A2, c2, rfl, h1, h2⟩ := argArr opWr2 (by kernel_rfl) (hval 2 _ v2 rfl rfl) t2 (weight_at hsz 2 (by rw [Tryd.params5]; rfl) rfl)
  have hc := restores_any (fun _ => False) W (fun _ h => h.elim) s cm hs hcm l1 l2 A1 A2 c1 c2 h1.stab h2.stab (tab_of_laid hL).stab
  refine Calls.mono hc.out ?_
  rintro _ W' ⟨v, rfl, hb, rfl⟩
  have hlt : ∀ x ∈ p0 ++ p1 ++ p2, x.block < W.heap.size := fun x hx => hW.lt x (by rw [hps]; exact List.mem_append_left _ hx)
  refine ⟨_, rfl, post_below (pa := p0 ++ p1 ++ p2) (pv := []) hW (fun _ _ _ => trodAll_mk1 (shut_bool Tryd.underlying4 true)) (fun sp hsp => ?_) (fun _ _ => rfl) hps hb (ok_one (by kernel_rfl) rfl (okWide_bool_mk Tryd.underlying4 true))⟩
  exact DataW.TrodAll.respare kids_ full_ (by rw [Tryd.params5]; decide) (trodAll_below hb hlt hA1) (fun x hx => hsp x (by rw [hps]; exact List.mem_append_left _ hx))
theorem restores_holds : Rows.ReverseRestoresSaid :=
  OpenClaim.holds_of_wide 5 Tryd.f5 rfl rfl rfl rfl rfl rfl rfl ⟨rfl, rfl, rfl, rfl, rfl⟩ rfl rfl rfl rfl rfl (by kernel_rfl) Tryd.func5 (by kernel_rfl)
    (of_decide_eq_true (by kernel_rfl)) (by unfold Func.isWrapper; first | (rw [if_pos (by decide +kernel)]; kernel_rfl) | (rw [if_neg (by decide +kernel)]; exact ⟨rfl, rfl⟩))
    (fun os started H enc _ => restores_lifted os started H enc)
theorem restores_card : Rows.ReverseRestoresCardSaid :=
  Claim7.holds_tied_plain_at .later [] [.data] true (true, "0fbea9f7a9363770ef7d7c442e923654834488058ca280ed95a31cbd94370fd7") false
    restores_holds (fun _ h => by cases h) (by kernel_rfl) (fun _ h => by cases h) reverseRestores_row_tie rfl ⟨rfl, rfl⟩ (by kernel_rfl) rfl
    (fun f fn hf hfn => by
      obtain rfl : f = 5 := Option.some.inj ((show Tryd.prog.funcNamed "standby/standbylaw47.ReverseRestores" = some 5 by kernel_rfl).symm.trans hf) |>.symm
      obtain rfl : fn = Tryd.f5 := (Option.some.inj (Tryd.func5.symm.trans hfn)).symm
      exact ⟨by kernel_rfl, fun j t ht => by
        rw [Tryd.params5] at ht
        have hm := Array.mem_of_getElem? ht
        have hall : (([5, 5, 52] : List Nat).all fun u => !Tryd.prog.wantsStandIn u) = true := by kernel_rfl
        have hm' : t ∈ ([5, 5, 52] : List Nat) := by simpa using hm
        exact (show Tryd.prog.wantsStandIn t = false by simpa using List.all_eq_true.1 hall t hm')⟩)
    (by kernel_rfl)
#print axioms restores_card
end Go.Proofs.YtiolpldihoghiaaDoor
