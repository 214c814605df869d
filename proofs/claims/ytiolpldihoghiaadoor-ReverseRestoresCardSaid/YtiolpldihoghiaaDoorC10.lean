/- What Cycle returns, in plain Lean. reverse.Cycle: the contract. The reference's Contents: the contract. The statement's awake: the contract. The engine, part 26: from the arguments' reading to what the contracts ask; a row's end. Over any program. The program's data types, opened. From the rows to the contracts: what all laws of this seat share. -/
import Derived.Test.YtiolpldihoghiaaDoorC9
import Derived.Test.YtiolpldihoghiaaDoorC3
import Derived.Test.YtiolpldihoghiaaDoorC6
import Derived.OpenShut
import Derived.Deep.Slices
import Derived.SizedLaws
import Derived.ReadAgain
import Derived.ChangeShapes
import Derived.WideShapes
import Derived.ChangeSame
import Derived.Test.YtiolpldihoghiaaDoorC4
import Derived.Test.YtiolpldihoghiaaDoorC5
import Derived.Test.YtiolpldihoghiaaDoorRows
import Derived.ProofKit
import Derived.LaidMore
import Derived.Stop.Joined
namespace Go.Proofs.YtiolpldihoghiaaDoor
open Go.RowKit
set_option linter.unusedVariables false
/-- The contents of an extent of a volume, as a write. -/
def mkW (im : List (List Sec)) (v : Nat) (e : Ext) : Wr := ⟨v, e.start, (((im[v]?).getD []).drop e.start.toNat).take e.count.toNat⟩
def contUpto (im : List (List Sec)) (l : List (List Ext)) : Nat → List Wr
  | 0 => []
  | i + 1 => contUpto im l i ++ ((l[i]?).getD []).map (mkW im i)
def contents (im : List (List Sec)) (l : List (List Ext)) : List Wr := contUpto im l l.length
def cyc0 : Cyc := ⟨0, 0, 0, [], []⟩
def cycSp (p q : Pt) (number time : Int) (pos : List Int) : Cyc × Int :=
  if (betwSp p q).2 ≠ 0 then (cyc0, (betwSp p q).2) else if number ≤ (anc p.lin q.lin).1 ∨ number < lastTo q.lin then (cyc0, 2) else
  let c : Cyc := ⟨(anc p.lin q.lin).1, number, time, pos, contents q.im (betwSp p q).1⟩
  if cycErr c (sizesOf q.im) ≠ 0 then (cyc0, cycErr c (sizesOf q.im)) else (c, 0)
/-- Where Between finds no error. -/
structure BetwOk (p q : Pt) : Prop where
  okp : PtOk p
  okq : PtOk q
  esz : sizesOf p.im = sizesOf q.im
  eq : betwSp p q = (betw p q, 0)
theorem betwOk {p q : Pt} (h : (betwSp p q).2 = 0) : BetwOk p q := by
  by_cases h1 : ptErr p ≠ 0
  · unfold betwSp at h; rw [if_pos h1] at h; exact absurd h h1
  · by_cases h2 : ptErr q ≠ 0
    · unfold betwSp at h; rw [if_neg h1, if_pos h2] at h; exact absurd h h2
    · by_cases h3 : sizesOf p.im ≠ sizesOf q.im
      · unfold betwSp at h; rw [if_neg h1, if_neg h2, if_pos h3] at h; cases h
      · exact ⟨ptErr_zero (by omega), ptErr_zero (by omega), by simpa using h3, by unfold betwSp; rw [if_neg h1, if_neg h2, if_neg h3]⟩
theorem betwSp_bad {p q : Pt} (h : (betwSp p q).2 ≠ 0) : betwSp p q = ([], (betwSp p q).2) := by
  unfold betwSp at *
  by_cases h1 : ptErr p ≠ 0
  · rw [if_pos h1]
  · rw [if_neg h1] at h ⊢
    by_cases h2 : ptErr q ≠ 0
    · rw [if_pos h2]
    · rw [if_neg h2] at h ⊢
      by_cases h3 : sizesOf p.im ≠ sizesOf q.im
      · rw [if_pos h3]
      · rw [if_neg h3] at h; exact absurd rfl h
theorem BetwOk.len {p q : Pt} (h : BetwOk p q) : p.im.length = q.im.length ∧ (betw p q).length = q.im.length ∧ p.dirty.length = q.im.length ∧ q.dirty.length = q.im.length ∧ q.im.length ≤ 8 := by
  have h1 := congrArg List.length h.esz
  simp only [sizesOf_len] at h1
  have h2 := h.okp.len
  have h3 := h.okq.len
  have h4 := h.okq.im
  refine ⟨h1, ?_, by omega, by omega, by omega⟩
  unfold betw; rw [List.length_zipWith]; omega
theorem BetwOk.at_ {p q : Pt} (h : BetwOk p q) {i : Nat} (hi : i < q.im.length) (hb : i < (betw p q).length) : q.im[i].length ≤ 4096 ∧ ((betw p q)[i]).length ≤ 4096 ∧ ∀ e ∈ (betw p q)[i], 0 ≤ e.start ∧ 0 ≤ e.count ∧ e.start + e.count ≤ (q.im[i].length : Int) := by
  obtain ⟨l1, l2, l3, l4, l5⟩ := h.len
  obtain ⟨x1, x2⟩ := h.okp.bm i (by omega) (by omega)
  obtain ⟨y1, y2⟩ := h.okq.bm i (by omega) hi
  have hs := h.okq.im.2.2 _ (List.getElem_mem hi)
  have e1 := sizesOf_at (by omega : i < p.im.length) (by rw [sizesOf_len]; omega)
  have e2 := sizesOf_at hi (by rw [sizesOf_len]; omega)
  have e3 : (p.im[i]'(by omega)).length = q.im[i].length := by
    have : (sizesOf p.im)[i]'(by rw [sizesOf_len]; omega) = (sizesOf q.im)[i]'(by rw [sizesOf_len]; omega) := by simp only [h.esz]
    rw [e1, e2] at this; omega
  have e4 : (betw p q)[i] = orExts (p.dirty[i]'(by omega)) (q.dirty[i]'(by omega)) := by
    apply Option.some.inj
    rw [← List.getElem?_eq_getElem hb]
    unfold betw; rw [List.getElem?_zipWith, List.getElem?_eq_getElem (by omega), List.getElem?_eq_getElem (by omega)]
  rw [e4, orExts_eq x1 y1 (by omega)]
  have hin := extsUpto_in (fun k => bitOf (p.dirty[i]'(by omega)).words k || bitOf (q.dirty[i]'(by omega)).words k) (p.dirty[i]'(by omega)).size.toNat
  exact ⟨by omega, by have := hin.1; omega, fun e he => by have := hin.2 e he; omega⟩
theorem contUpto_len (im : List (List Sec)) (l : List (List Ext)) (h : ∀ x ∈ l, x.length ≤ 4096) : ∀ i, (contUpto im l i).length ≤ 4096 * i
  | 0 => Nat.le_refl _
  | i + 1 => by
    rw [contUpto, List.length_append, List.length_map]
    have := contUpto_len im l h i
    have h2 : ((l[i]?).getD []).length ≤ 4096 := by
      cases hx : l[i]? with
      | none => simp
      | some x => exact h x (List.mem_of_getElem? hx)
    omega
end Go.Proofs.YtiolpldihoghiaaDoor

namespace Go.Proofs.YtiolpldihoghiaaDoor
open Go.RowKit
set_option linter.unusedVariables false
set_option linter.unusedSimpArgs false
set_option maxHeartbeats 8000000
theorem ca_Cy2 {k : FuncId} {vs : List Value} {w1 : World} {v : Value} (h : Ret Tryd.prog k vs w1 (fun u _ => u = v) := by first | exact anc_any _ _ _ _ _ _ _ _ (H.fact _ mem_auto) (H.fact _ mem_auto) | exact last_any _ _ _ _ _ (H.fact _ mem_auto)) : Ret Tryd.prog k vs w1 (fun u _ => u = v) := h
/-- A cycle and a number are handed back. -/
def CycRet (M : Nat → Prop) (w : World) (r : Cyc × Int) (v : Value) (w' : World) : Prop :=
  ∃ v1 v2, v = .tuple #[.agg [.int .i64 r.1.base, .int .i64 r.1.number, .int .i64 r.1.time, v1, v2].toArray, .int .i64 r.2] ∧ Fresh (kInt .i64) 3 1 M w r.1.pos v1 w' ∧ Fresh kWr 100 3 M w r.1.writes v2 w'
theorem cyc_ret0 {w0 w : World} {M : Nat → Prop} {L : List Loc} {O : List Own} {F : List (World → Prop)} {r : Cyc × Int} {e : Int} (H : Hp w0 M w L O F) (hr : r = (cyc0, e)) : CycRet M w0 r (.tuple #[.agg [.int .i64 0, .int .i64 0, .int .i64 0, .slice none 0 0, .slice none 0 0].toArray, .int .i64 e]) w := by
  subst hr; exact ⟨_, _, rfl, H.fresh_nil, H.fresh_nil⟩
theorem Hp.own_rowF {w0 w : World} {M : Nat → Prop} {L : List Loc} {O : List Own} {F : List (World → Prop)} {α : Type} {dd : Rp α} {xs : List α} {A : Option Addr} {c e sz n j : Nat} {cs : List Value} (H : Hp w0 M w L O F) (hO : O[j]? = some ⟨.slice A n c, e, sz, n, cs⟩) (hm : Chunks dd sz xs cs ∈ F) (hsz : 0 < sz) (hn : n = xs.length) (hl : n ≤ 140737488355328) : Stab w (fun _ => False) (Row dd sz A xs) := by
  subst hn
  have hmem := List.mem_of_getElem? hO
  obtain ⟨A', c', h1, _, _, h4⟩ := own_row (M := Mu M L O) (M1 := fun _ => False) (H.own _ hmem) (H.fact _ hm) hsz (fun b hb => .inr (.inr ⟨_, hmem, hb⟩)) rfl hl (fun _ h => h.elim) (fun _ _ h => h)
  simp only at h1
  injection h1 with h1 _ _
  subst h1
  exact h4
theorem betwSp_len (p q : Pt) (h : p.dirty.length ≤ 1000000) : (betwSp p q).1.length ≤ 1000000 := by
  unfold betwSp; repeat' split
  · simp
  · simp
  · simp
  · simp only [betw, List.length_zipWith]; omega
section
variable (M : Nat → Prop) (w : World) (hM : ∀ b, M b → b < w.heap.size) (p q : Pt) (A1 A2 A3 B1 B2 B3 Ap : Option Addr) (c1 c2 c3 d1 d2 d3 cp : Nat) (hs : rng .i64 p.site) (hd : p.dirty.length ≤ 1000000) (hi : p.im.length ≤ 1000000) (hs' : rng .i64 q.site) (hd' : q.dirty.length ≤ 1000000) (hi' : q.im.length ≤ 1000000)
  (number time : Int) (pos : List Int) (hpl : pos.length ≤ 1000000)
  (h1 : Stab w M (Row kSpan 3 A1 p.lin)) (h2 : Stab w M (Row kBm 2 A2 p.dirty)) (h3 : Stab w M (Row kVol 1 A3 p.im)) (k1 : Stab w M (Row kSpan 3 B1 q.lin)) (k2 : Stab w M (Row kBm 2 B2 q.dirty)) (k3 : Stab w M (Row kVol 1 B3 q.im)) (hp : Stab w M (Row (kInt .i64) 1 Ap pos)) (hT : Stab w M TabF)
include hM hs hd hi hs' hd' hi' hpl h1 h2 h3 k1 k2 k3 hp hT
theorem cycle_any :
    Ret Tryd.prog 17 [.agg [.int .i64 p.site, .slice A1 p.lin.length c1, .slice A2 p.dirty.length c2, .slice A3 p.im.length c3].toArray, .agg [.int .i64 q.site, .slice B1 q.lin.length d1, .slice B2 q.dirty.length d2, .slice B3 q.im.length d3].toArray, .int .i64 number, .int .i64 time, .slice Ap pos.length cp] w (CycRet M w (cycSp p q number time pos)) := by
  have hprng := rng_row hp
  refine enter (M := M) (F := [Row kSpan 3 A1 p.lin, Row kBm 2 A2 p.dirty, Row kVol 1 A3 p.im, Row kSpan 3 B1 q.lin, Row kBm 2 B2 q.dirty, Row kVol 1 B3 q.im, Row (kInt .i64) 1 Ap pos, TabF]) Tryd.func17 rfl rfl rfl (by simpa using ⟨h1, h2, h3, k1, k2, k3, hp, hT⟩) fun H => ?_
  repeat' (first | (apply l_rd; exact rd_go; rfl) | (apply q_rd; exact rd_go; rfl) | refine stp ?_ | refine bk_o rfl ?_ | refine c_true ⟨rfl, rfl⟩ ?_ | refine c_false ⟨rfl, rfl⟩ ?_ | (apply l_rdg; rfl; rfl; rfl; exact rd_go; rfl) | refine l_skip rfl rfl rfl rfl ?_ | (apply q_rdg; rfl; rfl; rfl; exact rd_go; rfl) | refine q_skip rfl rfl rfl rfl ?_ | (refine q_end ?_; clear H; intro _ H) | ((first | refine l_st (z_box H ?_) | refine l_st (s_alloc H rfl ?_)); clear H; intro _ _ _ H) | (refine l_st (t_build0 H rfl ?_); clear H; intro _ _ _ _ H) | (refine l_st (z_sto H ?_); clear H; intro _ H) | ((first | refine c_cond ⟨rfl, rfl⟩ ?_ ?_ | refine c_ncond ⟨rfl, rfl⟩ ?_ ?_ | refine l_split rfl rfl ?_ ?_ | refine q_split rfl rfl ?_ ?_ | refine l_nsplit rfl rfl ?_ ?_ | refine q_nsplit rfl rfl ?_ ?_) <;> intro _ <;> try (exfalso; omega)) | (refine l_st (k_call1 evs_auto H ca_Cy2 rfl ?_); clear H; intro _ _ H) | (refine l_st (k_callg1 evs_auto rfl rfl rfl H ca_Cy2 rfl ?_); clear H; intro _ _ H) | refine kq_call1 evs_auto H (fun _ H => ca_Cy2) rfl ?_ | refine kq_callg1 evs_auto rfl rfl rfl H (fun _ H => ca_Cy2) rfl ?_)
  refine l_st (k_call evs_auto H (between_any _ _ (H.mu_lt hM) p q A1 A2 A3 B1 B2 B3 c1 c2 c3 d1 d2 d3 hs hd hi hs' hd' hi' (H.fact _ mem_auto) (H.fact _ mem_auto) (H.fact _ mem_auto) (H.fact _ mem_auto) (H.fact _ mem_auto) (H.fact _ mem_auto) (H.fact _ mem_auto)) rfl ?_)
  rintro _ w1 ⟨v1, rfl, hf⟩ hb1 _
  obtain ⟨A5, c5, hA5, s1, s2, H1⟩ := H.takeRow hb1 hf hM Nat.zero_lt_one (by have := betwSp_len p q hd; omega)
  subst hA5
  clear H hf; have H := H1; clear H1
  repeat' (first | (apply l_rd; exact rd_go; rfl) | (apply q_rd; exact rd_go; rfl) | refine stp ?_ | refine bk_o rfl ?_ | refine c_true ⟨rfl, rfl⟩ ?_ | refine c_false ⟨rfl, rfl⟩ ?_ | (apply l_rdg; rfl; rfl; rfl; exact rd_go; rfl) | refine l_skip rfl rfl rfl rfl ?_ | (apply q_rdg; rfl; rfl; rfl; exact rd_go; rfl) | refine q_skip rfl rfl rfl rfl ?_ | (refine q_end ?_; clear H; intro _ H) | ((first | refine l_st (z_box H ?_) | refine l_st (s_alloc H rfl ?_)); clear H; intro _ _ _ H) | (refine l_st (t_build0 H rfl ?_); clear H; intro _ _ _ _ H) | (refine l_st (z_sto H ?_); clear H; intro _ H) | ((first | refine c_cond ⟨rfl, rfl⟩ ?_ ?_ | refine c_ncond ⟨rfl, rfl⟩ ?_ ?_ | refine l_split rfl rfl ?_ ?_ | refine q_split rfl rfl ?_ ?_ | refine l_nsplit rfl rfl ?_ ?_ | refine q_nsplit rfl rfl ?_ ?_) <;> intro _ <;> try (exfalso; omega)) | (refine l_st (k_call1 evs_auto H ca_Cy2 rfl ?_); clear H; intro _ _ H) | (refine l_st (k_callg1 evs_auto rfl rfl rfl H ca_Cy2 rfl ?_); clear H; intro _ _ H) | refine kq_call1 evs_auto H (fun _ H => ca_Cy2) rfl ?_ | refine kq_callg1 evs_auto rfl rfl rfl H (fun _ H => ca_Cy2) rfl ?_)
  · have hbad : (betwSp p q).2 ≠ 0 := by assumption
    refine retct (i := 0) H rfl rfl rfl rfl rfl rfl rfl (cyc_ret0 H ?_); unfold cycSp; rw [if_pos hbad]
  · refine retct (i := 0) H rfl rfl rfl rfl rfl rfl rfl (cyc_ret0 H ?_); unfold cycSp; rw [if_neg (by assumption), if_pos (by omega)]
  · refine retct (i := 0) H rfl rfl rfl rfl rfl rfl rfl (cyc_ret0 H ?_); unfold cycSp; rw [if_neg (by assumption), if_pos (by omega)]
  have hgood : ¬ (betwSp p q).2 ≠ 0 := by assumption
  have hnb : ¬ (number ≤ (anc p.lin q.lin).1 ∨ number < lastTo q.lin) := by omega
  have hok := betwOk (p := p) (q := q) (by omega)
  obtain ⟨l1, l2, l3, l4, l5⟩ := hok.len
  have hsp : cycSp p q number time pos = if cycErr ⟨(anc p.lin q.lin).1, number, time, pos, contents q.im (betwSp p q).1⟩ (sizesOf q.im) ≠ 0 then (cyc0, cycErr ⟨(anc p.lin q.lin).1, number, time, pos, contents q.im (betwSp p q).1⟩ (sizesOf q.im)) else (⟨(anc p.lin q.lin).1, number, time, pos, contents q.im (betwSp p q).1⟩, 0) := by
    unfold cycSp; rw [if_neg hgood, if_neg hnb]
  have hLl : (betwSp p q).1.length = q.im.length := by rw [hok.eq]; exact l2
  have hLat : ∀ i (h : i < q.im.length) (hb : i < (betwSp p q).1.length), q.im[i].length ≤ 4096 ∧ ((betwSp p q).1[i]).length ≤ 4096 ∧ ∀ e ∈ (betwSp p q).1[i], 0 ≤ e.start ∧ 0 ≤ e.count ∧ e.start + e.count ≤ (q.im[i].length : Int) := by
    rw [hok.eq]; exact fun i h hb => hok.at_ h hb
  clear hgood l2
  rw [hsp]
  clear hsp
  generalize (betwSp p q).1 = lst at *
  refine l_st (k_call evs_auto H (cloneInt _ (d := kInt .i64) pos Ap cp _ (by omega) (H.fact _ mem_auto)) rfl ?_)
  intro v2 w2 hf2 hb2 _
  obtain ⟨A6, c6, cs6, rfl, _, _, H1⟩ := H.take' hb2 hf2
  obtain rfl := chunks_int (H1.fact _ (List.mem_cons_self ..)).now
  clear H hf2; have H := H1; clear H1
  repeat' (first | (apply l_rd; exact rd_go; rfl) | (apply q_rd; exact rd_go; rfl) | refine stp ?_ | refine bk_o rfl ?_ | refine c_true ⟨rfl, rfl⟩ ?_ | refine c_false ⟨rfl, rfl⟩ ?_ | (apply l_rdg; rfl; rfl; rfl; exact rd_go; rfl) | refine l_skip rfl rfl rfl rfl ?_ | (apply q_rdg; rfl; rfl; rfl; exact rd_go; rfl) | refine q_skip rfl rfl rfl rfl ?_ | (refine q_end ?_; clear H; intro _ H) | ((first | refine l_st (z_box H ?_) | refine l_st (s_alloc H rfl ?_)); clear H; intro _ _ _ H) | (refine l_st (t_build0 H rfl ?_); clear H; intro _ _ _ _ H) | (refine l_st (z_sto H ?_); clear H; intro _ H) | ((first | refine c_cond ⟨rfl, rfl⟩ ?_ ?_ | refine c_ncond ⟨rfl, rfl⟩ ?_ ?_ | refine l_split rfl rfl ?_ ?_ | refine q_split rfl rfl ?_ ?_ | refine l_nsplit rfl rfl ?_ ?_ | refine q_nsplit rfl rfl ?_ ?_) <;> intro _ <;> try (exfalso; omega)) | (refine l_st (k_call1 evs_auto H ca_Cy2 rfl ?_); clear H; intro _ _ H) | (refine l_st (k_callg1 evs_auto rfl rfl rfl H ca_Cy2 rfl ?_); clear H; intro _ _ H) | refine kq_call1 evs_auto H (fun _ H => ca_Cy2) rfl ?_ | refine kq_callg1 evs_auto rfl rfl rfl H (fun _ H => ca_Cy2) rfl ?_)
  have hmn : ∀ x ∈ lst, x.length ≤ 4096 := fun x hx => by
    obtain ⟨j, hj, rfl⟩ := List.mem_iff_getElem.1 hx
    exact (hLat j (by omega) hj).2.1
  have hcl := contUpto_len q.im lst hmn
  have H1 := (((H.own_nil 100 3).own_nil 3 1).add (f := Chunks kWr 3 ([] : List Wr) []) (fun _ _ _ => Chunks.nil))
  have H2 := H1.weak (F' := [Chunks kWr 3 ([] : List Wr) [], Row (kSl 2 kExt) 1 A5 lst, Row kVol 1 B3 q.im]) (List.Sublist.refl _) (List.Sublist.refl _) (by simp)
  clear H H1; have H := H2; clear H2
  refine c_loopk [61, 17] [59, 60, 12, 16, 10] (fun n vs w' => ∃ (i : Nat) (A17 : Option Addr) (c17 : Nat) (Aw : Option Addr) (cw : Nat) (xs : List Wr) (cs : List Value), vs = [.int .i64 i, .slice A17 (sizesOf (q.im.take i)).length c17] ∧ i ≤ q.im.length ∧ n = q.im.length - i ∧ xs = contUpto q.im lst i ∧
      Hp w M w' [⟨_, [.int .i64 (anc p.lin q.lin).1, .int .i64 number, .int .i64 time, .slice A6 pos.length c6, .slice Aw xs.length cw], _⟩, ⟨_, [.int .i64 0, .int .i64 0, .int .i64 0, .slice none 0 0, .slice none 0 0], _⟩]
        [⟨.slice A17 (sizesOf (q.im.take i)).length c17, 3, 1, (sizesOf (q.im.take i)).length, (sizesOf (q.im.take i)).map (Value.int .i64)⟩, ⟨.slice Aw xs.length cw, 100, 3, xs.length, cs⟩, ⟨.slice A6 pos.length c6, 3, 1, pos.length, pos.map (Value.int .i64)⟩]
        [Chunks kWr 3 xs cs, Row (kSl 2 kExt) 1 A5 lst, Row kVol 1 B3 q.im]) _ [_, _, _, _, _] rfl
      ⟨0, none, 0, none, 0, [], [], rfl, Nat.zero_le _, rfl, rfl, H.weak (.cons_cons _ (.cons_cons _ (List.nil_sublist _))) (List.Sublist.refl _) (by simp)⟩ ?_
  clear H
  rintro n _ E0 w3 ⟨i, A17, c17, Aw, cw, xs, cs, rfl, hi3, rfl, hxs, H⟩
  by_cases hi4 : i < q.im.length
  · obtain ⟨A7, c7, _, _, H1⟩ := H.openS (dd := kSec) (sz := 8) (A := B3) (xs := q.im) (i := i) mem_auto hi4
    obtain ⟨A8, c8, _, _, H2⟩ := H1.openS (dd := kExt) (sz := 2) (A := A5) (xs := lst) (i := i) mem_auto (by omega)
    clear H H1; have H := H2; clear H2
    obtain ⟨b1, b2, b3⟩ := hLat i hi4 (by omega)
    repeat' (first | (apply l_rd; exact rd_go; rfl) | (apply q_rd; exact rd_go; rfl) | refine stp ?_ | refine bk_o rfl ?_ | refine c_true ⟨rfl, rfl⟩ ?_ | refine c_false ⟨rfl, rfl⟩ ?_ | (apply l_rdg; rfl; rfl; rfl; exact rd_go; rfl) | refine l_skip rfl rfl rfl rfl ?_ | (apply q_rdg; rfl; rfl; rfl; exact rd_go; rfl) | refine q_skip rfl rfl rfl rfl ?_ | (refine q_end ?_; clear H; intro _ H) | ((first | refine l_st (z_box H ?_) | refine l_st (s_alloc H rfl ?_)); clear H; intro _ _ _ H) | (refine l_st (t_build0 H rfl ?_); clear H; intro _ _ _ _ H) | (refine l_st (z_sto H ?_); clear H; intro _ H) | ((first | refine c_cond ⟨rfl, rfl⟩ ?_ ?_ | refine c_ncond ⟨rfl, rfl⟩ ?_ ?_ | refine l_split rfl rfl ?_ ?_ | refine q_split rfl rfl ?_ ?_ | refine l_nsplit rfl rfl ?_ ?_ | refine q_nsplit rfl rfl ?_ ?_) <;> intro _ <;> try (exfalso; omega)) | (refine l_st (k_call1 evs_auto H ca_Cy2 rfl ?_); clear H; intro _ _ H) | (refine l_st (k_callg1 evs_auto rfl rfl rfl H ca_Cy2 rfl ?_); clear H; intro _ _ H) | refine kq_call1 evs_auto H (fun _ H => ca_Cy2) rfl ?_ | refine kq_callg1 evs_auto rfl rfl rfl H (fun _ H => ca_Cy2) rfl ?_)
    have hls : (sizesOf (q.im.take i)).length = i := by simp [sizesOf]; omega
    refine l_appi (j := 0) (xs := sizesOf (q.im.take i)) (q.im[i].length : Int) H rfl rfl ⟨rfl, rfl⟩ rfl (fun _ => ⟨rfl, rfl⟩) (by omega) rfl ?_
    rw [sizesOf_snoc hi4]
    clear H; intro A17 c17 _ _ H
    repeat' (first | (apply l_rd; exact rd_go; rfl) | (apply q_rd; exact rd_go; rfl) | refine stp ?_ | refine bk_o rfl ?_ | refine c_true ⟨rfl, rfl⟩ ?_ | refine c_false ⟨rfl, rfl⟩ ?_ | (apply l_rdg; rfl; rfl; rfl; exact rd_go; rfl) | refine l_skip rfl rfl rfl rfl ?_ | (apply q_rdg; rfl; rfl; rfl; exact rd_go; rfl) | refine q_skip rfl rfl rfl rfl ?_ | (refine q_end ?_; clear H; intro _ H) | ((first | refine l_st (z_box H ?_) | refine l_st (s_alloc H rfl ?_)); clear H; intro _ _ _ H) | (refine l_st (t_build0 H rfl ?_); clear H; intro _ _ _ _ H) | (refine l_st (z_sto H ?_); clear H; intro _ H) | ((first | refine c_cond ⟨rfl, rfl⟩ ?_ ?_ | refine c_ncond ⟨rfl, rfl⟩ ?_ ?_ | refine l_split rfl rfl ?_ ?_ | refine q_split rfl rfl ?_ ?_ | refine l_nsplit rfl rfl ?_ ?_ | refine q_nsplit rfl rfl ?_ ?_) <;> intro _ <;> try (exfalso; omega)) | (refine l_st (k_call1 evs_auto H ca_Cy2 rfl ?_); clear H; intro _ _ H) | (refine l_st (k_callg1 evs_auto rfl rfl rfl H ca_Cy2 rfl ?_); clear H; intro _ _ H) | refine kq_call1 evs_auto H (fun _ H => ca_Cy2) rfl ?_ | refine kq_callg1 evs_auto rfl rfl rfl H (fun _ H => ca_Cy2) rfl ?_)
    refine c_loopk [76] [74, 75, 18, 19, 16, 12, 59, 60, 61, 17, 10] (fun n vs w' => ∃ (k : Nat) (Aw : Option Addr) (cw : Nat) (ys : List Wr) (cs : List Value), vs = [.int .i64 k] ∧ k ≤ lst[i].length ∧ n = lst[i].length - k ∧ ys = xs ++ (lst[i].take k).map (mkW q.im i) ∧
        Hp w M w' [⟨_, [.int .i64 (anc p.lin q.lin).1, .int .i64 number, .int .i64 time, .slice A6 pos.length c6, .slice Aw ys.length cw], _⟩, ⟨_, [.int .i64 0, .int .i64 0, .int .i64 0, .slice none 0 0, .slice none 0 0], _⟩]
          [⟨.slice A17 (sizesOf (q.im.take (i + 1))).length c17, 3, 1, (sizesOf (q.im.take (i + 1))).length, (sizesOf (q.im.take (i + 1))).map (Value.int .i64)⟩, ⟨.slice Aw ys.length cw, 100, 3, ys.length, cs⟩, ⟨.slice A6 pos.length c6, 3, 1, pos.length, pos.map (Value.int .i64)⟩]
          [Chunks kWr 3 ys cs, Row kExt 2 A8 lst[i], Row kSec 8 A7 q.im[i], Row (kSl 2 kExt) 1 A5 lst, Row kVol 1 B3 q.im]) _ [_, _, _, _, _, _, _, _, _, _, _] rfl
        ⟨0, Aw, cw, xs, cs, rfl, Nat.zero_le _, rfl, by simp, H.weak (List.Sublist.refl _) (List.Sublist.refl _) (by simp)⟩ ?_
    clear H
    rintro n _ E1 w4 ⟨k, Aw, cw, ys, cs, rfl, hk, rfl, hys, H⟩
    have hyl : ys.length ≤ 4096 * 9 := by
      have := hcl i
      rw [hys, hxs, List.length_append, List.length_map, List.length_take]; omega
    by_cases hk' : k < lst[i].length
    · obtain ⟨e1, e2, e3⟩ := b3 _ (List.getElem_mem hk')
      repeat' (first | (apply l_rd; exact rd_go; rfl) | (apply q_rd; exact rd_go; rfl) | refine stp ?_ | refine bk_o rfl ?_ | refine c_true ⟨rfl, rfl⟩ ?_ | refine c_false ⟨rfl, rfl⟩ ?_ | (apply l_rdg; rfl; rfl; rfl; exact rd_go; rfl) | refine l_skip rfl rfl rfl rfl ?_ | (apply q_rdg; rfl; rfl; rfl; exact rd_go; rfl) | refine q_skip rfl rfl rfl rfl ?_ | (refine q_end ?_; clear H; intro _ H) | ((first | refine l_st (z_box H ?_) | refine l_st (s_alloc H rfl ?_)); clear H; intro _ _ _ H) | (refine l_st (t_build0 H rfl ?_); clear H; intro _ _ _ _ H) | (refine l_st (z_sto H ?_); clear H; intro _ H) | ((first | refine c_cond ⟨rfl, rfl⟩ ?_ ?_ | refine c_ncond ⟨rfl, rfl⟩ ?_ ?_ | refine l_split rfl rfl ?_ ?_ | refine q_split rfl rfl ?_ ?_ | refine l_nsplit rfl rfl ?_ ?_ | refine q_nsplit rfl rfl ?_ ?_) <;> intro _ <;> try (exfalso; omega)) | (refine l_st (k_call1 evs_auto H ca_Cy2 rfl ?_); clear H; intro _ _ H) | (refine l_st (k_callg1 evs_auto rfl rfl rfl H ca_Cy2 rfl ?_); clear H; intro _ _ H) | refine kq_call1 evs_auto H (fun _ H => ca_Cy2) rfl ?_ | refine kq_callg1 evs_auto rfl rfl rfl H (fun _ H => ca_Cy2) rfl ?_)
      refine c_mix H [17, 19] ?_
      clear H; intro w5 H
      (apply m_rd2 (i := 0) rfl (by decide +kernel) (by first | exact Below.refl _ _ | assumption); exact rd_go; rfl); (apply m_rd2 (i := 1) rfl (by decide +kernel) (by first | exact Below.refl _ _ | assumption); exact rd_go; rfl); (apply m_rd2 (i := 2) rfl (by decide +kernel) (by first | exact Below.refl _ _ | assumption); exact rd_go; rfl); (apply m_rd2 (i := 3) rfl (by decide +kernel) (by first | exact Below.refl _ _ | assumption); exact rd_go; rfl); (apply m_rd2 (i := 4) rfl (by decide +kernel) (by first | exact Below.refl _ _ | assumption); exact rd_go; rfl); (apply m_rd2 (i := 5) rfl (by decide +kernel) (by first | exact Below.refl _ _ | assumption); exact rd_go; rfl); (apply m_rd2 (i := 6) rfl (by decide +kernel) (by first | exact Below.refl _ _ | assumption); exact rd_go; rfl); (apply m_rd2 (i := 7) rfl (by decide +kernel) (by first | exact Below.refl _ _ | assumption); exact rd_go; rfl); (apply m_rd2 (i := 8) rfl (by decide +kernel) (by first | exact Below.refl _ _ | assumption); exact rd_go; rfl); (apply m_rd2 (i := 9) rfl (by decide +kernel) (by first | exact Below.refl _ _ | assumption); exact rd_go; rfl); (apply m_rd2 (i := 10) rfl (by decide +kernel) (by first | exact Below.refl _ _ | assumption); exact rd_go; rfl); (apply m_rd2 (i := 11) rfl (by decide +kernel) (by first | exact Below.refl _ _ | assumption); exact rd_go; rfl); (apply m_rd2 (i := 12) rfl (by decide +kernel) (by first | exact Below.refl _ _ | assumption); exact rd_go; rfl)
      have hsub := (H.fact (Row kSec 8 A7 q.im[i]) mem_auto).sub (l := (lst[i][k].start).toNat) (m := (lst[i][k].count).toNat) (c := c7) (by omega) (by omega)
      generalize hdt : (q.im[i].drop (lst[i][k].start).toNat).take (lst[i][k].count).toNat = dt at *
      have hdl : dt.length = (lst[i][k].count).toNat := by rw [← hdt, List.length_take, List.length_drop]; omega
      apply m_rd2 (i := 13) rfl (by decide +kernel) (by first | exact Below.refl _ _ | assumption)
      exact rd_slice2 (l := (lst[i][k].start).toNat) (m := dt.length) ⟨rfl, rfl⟩ ⟨rfl, rfl⟩ ⟨rfl, rfl⟩ (by omega) (by omega) (by omega)
      rfl
      refine m_one (i := 14) (by kernel_rfl) rfl (k_call evs_auto H (cloneSec _ (d := kSec) dt _ _ _ (by omega) hsub) rfl ?_)
      intro v6 w6 hf6 hb6 _
      obtain ⟨A10, c10, hv6, q1, q2, H6⟩ := H.takeRow hb6 hf6 hM (Nat.zero_lt_succ 7) (by omega)
      subst hv6
      clear H hf6 hsub; have H := H6; clear H6
      refine ⟨fun _ => hb6, ?_⟩
      (apply m_pure (i := 15) rfl (by decide +kernel); intro _; exact rd_go; rfl)
      have hkw := (H.fact (Row kSec 8 A10 dt) mem_auto).imp (g := fun w' => kWr w' (mkW q.im i lst[i][k]) [.int .i64 i, .int .i64 lst[i][k].start, .slice A10 dt.length c10]) fun w' h => by
        have hm : (mkW q.im i lst[i][k]).data = dt := by unfold mkW; rw [List.getElem?_eq_getElem hi4]; exact hdt
        refine ⟨A10, c10, by rw [hm]; rfl, ?_, ?_, ?_, q2, by rw [hm]; exact h⟩
        · simp only [mkW, rng]; omega
        · simp only [mkW, rng]; omega
        · rw [hm]; exact q1
      have H6 := H.add (f := Chunks kWr 3 (ys ++ [mkW q.im i lst[i][k]]) (cs ++ [.int .i64 i, .int .i64 lst[i][k].start, .slice A10 dt.length c10])) ((H.fact (Chunks kWr 3 ys cs) mem_auto).snoc hkw rfl)
      clear H hkw; have H := H6; clear H6
      refine m_one (i := 16) (by kernel_rfl) rfl (s_slice1 (cs := [_, _, _]) H ⟨rfl, rfl⟩ rfl rfl rfl rfl ?_)
      intro w7 b7 hb7 H7
      refine ⟨fun _ => hb6.trans (hb7.mono hb6.size), ?_⟩
      refine m_one (i := 17) (by kernel_rfl) rfl (t_append1 (j := 1) (i := 0) H7 rfl rfl ⟨rfl, rfl⟩ ⟨rfl, rfl⟩ rfl rfl (by omega) rfl ?_)
      intro Aw8 cw8 w8 hG8 H8
      refine ⟨fun h => (by cases h), ?_⟩
      (apply m_pure (i := 18) rfl (by decide +kernel); intro _; exact rd_go; rfl)
      refine m_one (i := 19) (by kernel_rfl) rfl (s_store (i := 2) (j := 4) (v := .slice _ _ _) H8 ⟨rfl, rfl⟩ rfl ⟨rfl, rfl⟩ rfl rfl ?_)
      intro w9 H9
      refine ⟨fun h => (by cases h), m_end (by kernel_rfl) ?_⟩
      clear H H7 H8; have H := H9; clear H9
      repeat' (first | (apply l_rd; exact rd_go; rfl) | (apply q_rd; exact rd_go; rfl) | refine stp ?_ | refine bk_o rfl ?_ | refine c_true ⟨rfl, rfl⟩ ?_ | refine c_false ⟨rfl, rfl⟩ ?_ | (apply l_rdg; rfl; rfl; rfl; exact rd_go; rfl) | refine l_skip rfl rfl rfl rfl ?_ | (apply q_rdg; rfl; rfl; rfl; exact rd_go; rfl) | refine q_skip rfl rfl rfl rfl ?_ | (refine q_end ?_; clear H; intro _ H) | ((first | refine l_st (z_box H ?_) | refine l_st (s_alloc H rfl ?_)); clear H; intro _ _ _ H) | (refine l_st (t_build0 H rfl ?_); clear H; intro _ _ _ _ H) | (refine l_st (z_sto H ?_); clear H; intro _ H) | ((first | refine c_cond ⟨rfl, rfl⟩ ?_ ?_ | refine c_ncond ⟨rfl, rfl⟩ ?_ ?_ | refine l_split rfl rfl ?_ ?_ | refine q_split rfl rfl ?_ ?_ | refine l_nsplit rfl rfl ?_ ?_ | refine q_nsplit rfl rfl ?_ ?_) <;> intro _ <;> try (exfalso; omega)) | (refine l_st (k_call1 evs_auto H ca_Cy2 rfl ?_); clear H; intro _ _ H) | (refine l_st (k_callg1 evs_auto rfl rfl rfl H ca_Cy2 rfl ?_); clear H; intro _ _ H) | refine kq_call1 evs_auto H (fun _ H => ca_Cy2) rfl ?_ | refine kq_callg1 evs_auto rfl rfl rfl H (fun _ H => ca_Cy2) rfl ?_)
      have hln : (ys ++ [mkW q.im i lst[i][k]]).length = ys.length + 1 := by simp
      refine lk_n rfl (n' := lst[i].length - (k + 1)) (by omega) ⟨k + 1, Aw8, cw8, ys ++ [mkW q.im i lst[i][k]], cs ++ [.int .i64 i, .int .i64 lst[i][k].start, .slice A10 dt.length c10], rfl, hk', rfl, by rw [hys, List.take_succ_eq_append_getElem hk', List.map_append, List.append_assoc]; rfl, ?_⟩
      rw [hln]
      exact H.weak (.cons _ (.cons _ (List.Sublist.refl _))) (List.Sublist.refl _) (by simp)
    · repeat' (first | (apply l_rd; exact rd_go; rfl) | (apply q_rd; exact rd_go; rfl) | refine stp ?_ | refine bk_o rfl ?_ | refine c_true ⟨rfl, rfl⟩ ?_ | refine c_false ⟨rfl, rfl⟩ ?_ | (apply l_rdg; rfl; rfl; rfl; exact rd_go; rfl) | refine l_skip rfl rfl rfl rfl ?_ | (apply q_rdg; rfl; rfl; rfl; exact rd_go; rfl) | refine q_skip rfl rfl rfl rfl ?_ | (refine q_end ?_; clear H; intro _ H) | ((first | refine l_st (z_box H ?_) | refine l_st (s_alloc H rfl ?_)); clear H; intro _ _ _ H) | (refine l_st (t_build0 H rfl ?_); clear H; intro _ _ _ _ H) | (refine l_st (z_sto H ?_); clear H; intro _ H) | ((first | refine c_cond ⟨rfl, rfl⟩ ?_ ?_ | refine c_ncond ⟨rfl, rfl⟩ ?_ ?_ | refine l_split rfl rfl ?_ ?_ | refine q_split rfl rfl ?_ ?_ | refine l_nsplit rfl rfl ?_ ?_ | refine q_nsplit rfl rfl ?_ ?_) <;> intro _ <;> try (exfalso; omega)) | (refine l_st (k_call1 evs_auto H ca_Cy2 rfl ?_); clear H; intro _ _ H) | (refine l_st (k_callg1 evs_auto rfl rfl rfl H ca_Cy2 rfl ?_); clear H; intro _ _ H) | refine kq_call1 evs_auto H (fun _ H => ca_Cy2) rfl ?_ | refine kq_callg1 evs_auto rfl rfl rfl H (fun _ H => ca_Cy2) rfl ?_)
      have hk2 : k = lst[i].length := by omega
      exact lk_n rfl (n' := q.im.length - (i + 1)) (by omega) ⟨i + 1, A17, c17, Aw, cw, ys, cs, rfl, hi4, rfl, by rw [hys, hxs, contUpto, List.getElem?_eq_getElem (by omega), hk2, List.take_length]; rfl, H.weak (List.Sublist.refl _) (List.Sublist.refl _) (by simp)⟩
  · have hi5 : q.im.take i = q.im := List.take_of_length_le (by omega)
    have hxc : xs = contents q.im lst := by rw [hxs, contents, hLl, show i = q.im.length from by omega]
    have hxl : xs.length ≤ 4096 * 9 := by have := hcl i; rw [hxs]; omega
    rw [hi5] at H
    have g1 := H.own_row0 (j := 2) rfl hprng rfl (by omega)
    have g2 := H.own_rowF (dd := kWr) (xs := xs) (j := 1) rfl mem_auto (by decide) rfl (by omega)
    have g3 := H.own_row0 (j := 0) rfl (sizesOf_rng (vol_len k3)) rfl (by rw [sizesOf_len]; omega)
    rw [hi5]
    repeat' (first | (apply l_rd; exact rd_go; rfl) | (apply q_rd; exact rd_go; rfl) | refine stp ?_ | refine bk_o rfl ?_ | refine c_true ⟨rfl, rfl⟩ ?_ | refine c_false ⟨rfl, rfl⟩ ?_ | (apply l_rdg; rfl; rfl; rfl; exact rd_go; rfl) | refine l_skip rfl rfl rfl rfl ?_ | (apply q_rdg; rfl; rfl; rfl; exact rd_go; rfl) | refine q_skip rfl rfl rfl rfl ?_ | (refine q_end ?_; clear H; intro _ H) | ((first | refine l_st (z_box H ?_) | refine l_st (s_alloc H rfl ?_)); clear H; intro _ _ _ H) | (refine l_st (t_build0 H rfl ?_); clear H; intro _ _ _ _ H) | (refine l_st (z_sto H ?_); clear H; intro _ H) | ((first | refine c_cond ⟨rfl, rfl⟩ ?_ ?_ | refine c_ncond ⟨rfl, rfl⟩ ?_ ?_ | refine l_split rfl rfl ?_ ?_ | refine q_split rfl rfl ?_ ?_ | refine l_nsplit rfl rfl ?_ ?_ | refine q_nsplit rfl rfl ?_ ?_) <;> intro _ <;> try (exfalso; omega)) | (refine l_st (k_call1 evs_auto H ca_Cy2 rfl ?_); clear H; intro _ _ H) | (refine l_st (k_callg1 evs_auto rfl rfl rfl H ca_Cy2 rfl ?_); clear H; intro _ _ H) | refine kq_call1 evs_auto H (fun _ H => ca_Cy2) rfl ?_ | refine kq_callg1 evs_auto rfl rfl rfl H (fun _ H => ca_Cy2) rfl ?_)
    have hcy := cyc_any (fun _ => False) ⟨(anc p.lin q.lin).1, number, time, pos, xs⟩ (sizesOf q.im) A6 Aw A17 c6 cw c17 _ (fun _ h => h.elim) g1 g2 g3
    refine l_st (k_call1 evs_auto H hcy rfl ?_)
    clear H g1 g2 g3 hcy; intro _ _ H
    rw [← hxc]
    repeat' (first | (apply l_rd; exact rd_go; rfl) | (apply q_rd; exact rd_go; rfl) | refine stp ?_ | refine bk_o rfl ?_ | refine c_true ⟨rfl, rfl⟩ ?_ | refine c_false ⟨rfl, rfl⟩ ?_ | (apply l_rdg; rfl; rfl; rfl; exact rd_go; rfl) | refine l_skip rfl rfl rfl rfl ?_ | (apply q_rdg; rfl; rfl; rfl; exact rd_go; rfl) | refine q_skip rfl rfl rfl rfl ?_ | (refine q_end ?_; clear H; intro _ H) | ((first | refine l_st (z_box H ?_) | refine l_st (s_alloc H rfl ?_)); clear H; intro _ _ _ H) | (refine l_st (t_build0 H rfl ?_); clear H; intro _ _ _ _ H) | (refine l_st (z_sto H ?_); clear H; intro _ H) | ((first | refine c_cond ⟨rfl, rfl⟩ ?_ ?_ | refine c_ncond ⟨rfl, rfl⟩ ?_ ?_ | refine l_split rfl rfl ?_ ?_ | refine q_split rfl rfl ?_ ?_ | refine l_nsplit rfl rfl ?_ ?_ | refine q_nsplit rfl rfl ?_ ?_) <;> intro _ <;> try (exfalso; omega)) | (refine l_st (k_call1 evs_auto H ca_Cy2 rfl ?_); clear H; intro _ _ H) | (refine l_st (k_callg1 evs_auto rfl rfl rfl H ca_Cy2 rfl ?_); clear H; intro _ _ H) | refine kq_call1 evs_auto H (fun _ H => ca_Cy2) rfl ?_ | refine kq_callg1 evs_auto rfl rfl rfl H (fun _ H => ca_Cy2) rfl ?_)
    · have hne : cycErr ⟨(anc p.lin q.lin).1, number, time, pos, xs⟩ (sizesOf q.im) ≠ 0 := by assumption
      refine retct (i := 1) H rfl rfl rfl rfl rfl rfl rfl (cyc_ret0 H ?_); rw [if_pos hne]
    · have hne : ¬ cycErr ⟨(anc p.lin q.lin).1, number, time, pos, xs⟩ (sizesOf q.im) ≠ 0 := by assumption
      refine retct (i := 1) H rfl rfl rfl rfl rfl rfl rfl ?_
      rw [if_neg hne]
      exact ⟨_, _, rfl, ints_ret (j := 2) H rfl hprng rfl, H.fresh (j := 1) rfl mem_auto rfl⟩
end
end Go.Proofs.YtiolpldihoghiaaDoor

namespace Go.Proofs.YtiolpldihoghiaaDoor
open Go.RowKit
set_option linter.unusedVariables false
set_option linter.unusedSimpArgs false
set_option maxHeartbeats 8000000
theorem rContents_any (M : Nat → Prop) (w : World) (hM : ∀ b, M b → b < w.heap.size) (im : List (List Sec)) (lst : List (List Ext)) (A3 A5 : Option Addr) (c3 c5 : Nat) (hil : im.length ≤ 8) (hLl : lst.length = im.length)
    (hLat : ∀ i (h : i < im.length) (hb : i < lst.length), im[i].length ≤ 4096 ∧ (lst[i]).length ≤ 4096 ∧ ∀ e ∈ lst[i], 0 ≤ e.start ∧ 0 ≤ e.count ∧ e.start + e.count ≤ (im[i].length : Int))
    (h3 : Stab w M (Row kVol 1 A3 im)) (h5 : Stab w M (Row (kSl 2 kExt) 1 A5 lst)) :
    Ret Tryd.prog 55 [.slice A3 im.length c3, .slice A5 lst.length c5] w fun v w' => Fresh kWr 100 3 M w (contents im lst) v w' := by
  have hmn : ∀ x ∈ lst, x.length ≤ 4096 := fun x hx => by
    obtain ⟨j, hj, rfl⟩ := List.mem_iff_getElem.1 hx
    exact (hLat j (by omega) hj).2.1
  have hcl := contUpto_len im lst hmn
  refine enter (M := M) (F := [Row kVol 1 A3 im, Row (kSl 2 kExt) 1 A5 lst]) Tryd.func55 rfl rfl rfl (by simpa using ⟨h3, h5⟩) fun H => ?_
  repeat' (first | (apply l_rd; exact rd_go; rfl) | (apply q_rd; exact rd_go; rfl) | refine stp ?_ | refine bk_o rfl ?_ | refine c_true ⟨rfl, rfl⟩ ?_ | refine c_false ⟨rfl, rfl⟩ ?_ | (apply l_rdg; rfl; rfl; rfl; exact rd_go; rfl) | refine l_skip rfl rfl rfl rfl ?_ | (apply q_rdg; rfl; rfl; rfl; exact rd_go; rfl) | refine q_skip rfl rfl rfl rfl ?_ | (refine q_end ?_; clear H; intro _ H) | ((first | refine l_st (z_box H ?_) | refine l_st (s_alloc H rfl ?_)); clear H; intro _ _ _ H) | (refine l_st (t_build0 H rfl ?_); clear H; intro _ _ _ _ H) | (refine l_st (z_sto H ?_); clear H; intro _ H) | ((first | refine c_cond ⟨rfl, rfl⟩ ?_ ?_ | refine c_ncond ⟨rfl, rfl⟩ ?_ ?_ | refine l_split rfl rfl ?_ ?_ | refine q_split rfl rfl ?_ ?_ | refine l_nsplit rfl rfl ?_ ?_ | refine q_nsplit rfl rfl ?_ ?_) <;> intro _ <;> try (exfalso; omega)))
  have H1 := (H.own_nil 100 3).add (f := Chunks kWr 3 ([] : List Wr) []) (fun _ _ _ => Chunks.nil)
  refine c_loopk [6, 5] [0, 1] (fun n vs w' => ∃ (i : Nat) (Aw : Option Addr) (cw : Nat) (xs : List Wr) (cs : List Value), vs = [.int .i64 i, .slice Aw xs.length cw] ∧ i ≤ lst.length ∧ n = lst.length - i ∧ xs = contUpto im lst i ∧
      Hp w M w' [] [⟨.slice Aw xs.length cw, 100, 3, xs.length, cs⟩] [Chunks kWr 3 xs cs, Row kVol 1 A3 im, Row (kSl 2 kExt) 1 A5 lst]) _ [_, _] rfl ⟨0, none, 0, [], [], rfl, Nat.zero_le _, rfl, rfl, H1⟩ ?_
  clear H H1
  rintro n _ E0 w3 ⟨i, Aw, cw, xs, cs, rfl, hi3, rfl, hxs, H⟩
  by_cases hi4 : i < lst.length
  · have hi5 : i < im.length := by omega
    obtain ⟨A7, c7, _, _, H1⟩ := H.openS (dd := kSec) (sz := 8) (A := A3) (xs := im) (i := i) mem_auto hi5
    obtain ⟨A8, c8, _, _, H2⟩ := H1.openS (dd := kExt) (sz := 2) (A := A5) (xs := lst) (i := i) mem_auto hi4
    clear H H1; have H := H2; clear H2
    obtain ⟨b1, b2, b3⟩ := hLat i hi5 hi4
    repeat' (first | (apply l_rd; exact rd_go; rfl) | (apply q_rd; exact rd_go; rfl) | refine stp ?_ | refine bk_o rfl ?_ | refine c_true ⟨rfl, rfl⟩ ?_ | refine c_false ⟨rfl, rfl⟩ ?_ | (apply l_rdg; rfl; rfl; rfl; exact rd_go; rfl) | refine l_skip rfl rfl rfl rfl ?_ | (apply q_rdg; rfl; rfl; rfl; exact rd_go; rfl) | refine q_skip rfl rfl rfl rfl ?_ | (refine q_end ?_; clear H; intro _ H) | ((first | refine l_st (z_box H ?_) | refine l_st (s_alloc H rfl ?_)); clear H; intro _ _ _ H) | (refine l_st (t_build0 H rfl ?_); clear H; intro _ _ _ _ H) | (refine l_st (z_sto H ?_); clear H; intro _ H) | ((first | refine c_cond ⟨rfl, rfl⟩ ?_ ?_ | refine c_ncond ⟨rfl, rfl⟩ ?_ ?_ | refine l_split rfl rfl ?_ ?_ | refine q_split rfl rfl ?_ ?_ | refine l_nsplit rfl rfl ?_ ?_ | refine q_nsplit rfl rfl ?_ ?_) <;> intro _ <;> try (exfalso; omega)))
    refine c_loopk [7, 5] [0, 1, 6] (fun n vs w' => ∃ (k : Nat) (Aw : Option Addr) (cw : Nat) (ys : List Wr) (cs : List Value), vs = [.int .i64 k, .slice Aw ys.length cw] ∧ k ≤ lst[i].length ∧ n = lst[i].length - k ∧ ys = xs ++ (lst[i].take k).map (mkW im i) ∧
        Hp w M w' [] [⟨.slice Aw ys.length cw, 100, 3, ys.length, cs⟩] [Chunks kWr 3 ys cs, Row kExt 2 A8 lst[i], Cel A5 i 1 [.slice A8 lst[i].length c8], Row kSec 8 A7 im[i], Cel A3 i 1 [.slice A7 im[i].length c7], Row kVol 1 A3 im, Row (kSl 2 kExt) 1 A5 lst]) _ [_, _, _] rfl
        ⟨0, Aw, cw, xs, cs, rfl, Nat.zero_le _, rfl, by simp, H.weak (List.Sublist.refl _) (List.Sublist.refl _) (by simp)⟩ ?_
    clear H
    rintro n _ E1 w4 ⟨k, Aw, cw, ys, cs, rfl, hk, rfl, hys, H⟩
    have hyl : ys.length ≤ 4096 * 9 := by
      have := hcl i
      rw [hys, hxs, List.length_append, List.length_map, List.length_take]; omega
    by_cases hk' : k < lst[i].length
    · obtain ⟨e1, e2, e3⟩ := b3 _ (List.getElem_mem hk')
      repeat' (first | (apply l_rd; exact rd_go; rfl) | (apply q_rd; exact rd_go; rfl) | refine stp ?_ | refine bk_o rfl ?_ | refine c_true ⟨rfl, rfl⟩ ?_ | refine c_false ⟨rfl, rfl⟩ ?_ | (apply l_rdg; rfl; rfl; rfl; exact rd_go; rfl) | refine l_skip rfl rfl rfl rfl ?_ | (apply q_rdg; rfl; rfl; rfl; exact rd_go; rfl) | refine q_skip rfl rfl rfl rfl ?_ | (refine q_end ?_; clear H; intro _ H) | ((first | refine l_st (z_box H ?_) | refine l_st (s_alloc H rfl ?_)); clear H; intro _ _ _ H) | (refine l_st (t_build0 H rfl ?_); clear H; intro _ _ _ _ H) | (refine l_st (z_sto H ?_); clear H; intro _ H) | ((first | refine c_cond ⟨rfl, rfl⟩ ?_ ?_ | refine c_ncond ⟨rfl, rfl⟩ ?_ ?_ | refine l_split rfl rfl ?_ ?_ | refine q_split rfl rfl ?_ ?_ | refine l_nsplit rfl rfl ?_ ?_ | refine q_nsplit rfl rfl ?_ ?_) <;> intro _ <;> try (exfalso; omega)))
      refine c_mix H [20] ?_
      clear H; intro w5 H0
      have hsub := (H0.fact (Row kSec 8 A7 im[i]) mem_auto).sub (l := (lst[i][k].start).toNat) (m := (lst[i][k].count).toNat) (c := c7) (by omega) (by omega)
      have H := H0.add hsub
      clear H0 hsub
      have hmd : (mkW im i lst[i][k]).data = (im[i].drop (lst[i][k].start).toNat).take (lst[i][k].count).toNat := by unfold mkW; rw [List.getElem?_eq_getElem hi5]; rfl
      generalize hdt : (im[i].drop (lst[i][k].start).toNat).take (lst[i][k].count).toNat = dt at *
      have hdl : dt.length = (lst[i][k].count).toNat := by rw [← hdt, List.length_take, List.length_drop]; omega
      (apply m_rd2 (i := 0) rfl (by decide +kernel) (by first | exact Below.refl _ _ | assumption); exact rd_go; rfl); (apply m_rd2 (i := 1) rfl (by decide +kernel) (by first | exact Below.refl _ _ | assumption); exact rd_go; rfl); (apply m_rd2 (i := 2) rfl (by decide +kernel) (by first | exact Below.refl _ _ | assumption); exact rd_go; rfl); (apply m_rd2 (i := 3) rfl (by decide +kernel) (by first | exact Below.refl _ _ | assumption); exact rd_go; rfl); (apply m_rd2 (i := 5) rfl (by decide +kernel) (by first | exact Below.refl _ _ | assumption); exact rd_go; rfl); (apply m_rd2 (i := 6) rfl (by decide +kernel) (by first | exact Below.refl _ _ | assumption); exact rd_go; rfl); (apply m_rd2 (i := 7) rfl (by decide +kernel) (by first | exact Below.refl _ _ | assumption); exact rd_go; rfl); (apply m_rd2 (i := 8) rfl (by decide +kernel) (by first | exact Below.refl _ _ | assumption); exact rd_go; rfl); (apply m_rd2 (i := 9) rfl (by decide +kernel) (by first | exact Below.refl _ _ | assumption); exact rd_go; rfl); (apply m_rd2 (i := 10) rfl (by decide +kernel) (by first | exact Below.refl _ _ | assumption); exact rd_go; rfl); (apply m_rd2 (i := 11) rfl (by decide +kernel) (by first | exact Below.refl _ _ | assumption); exact rd_go; rfl); (apply m_rd2 (i := 12) rfl (by decide +kernel) (by first | exact Below.refl _ _ | assumption); exact rd_go; rfl); (apply m_rd2 (i := 13) rfl (by decide +kernel) (by first | exact Below.refl _ _ | assumption); exact rd_go; rfl); (apply m_rd2 (i := 14) rfl (by decide +kernel) (by first | exact Below.refl _ _ | assumption); exact rd_go; rfl); (apply m_rd2 (i := 15) rfl (by decide +kernel) (by first | exact Below.refl _ _ | assumption); exact rd_go; rfl)
      apply m_rd2 (i := 16) rfl (by decide +kernel) (by first | exact Below.refl _ _ | assumption)
      exact rd_slice2 (l := (lst[i][k].start).toNat) (m := dt.length) ⟨rfl, rfl⟩ ⟨rfl, rfl⟩ ⟨rfl, rfl⟩ (by omega) (by omega) (by omega)
      rfl
      refine m_one (i := 4) (by kernel_rfl) rfl (t_build0m H rfl ?_)
      intro A9 c9 w6 hb6 hge H6
      refine ⟨fun _ => hb6, m_one (i := 17) (by kernel_rfl) rfl (t_append_row (j := 0) (dd := kSec) H6 rfl ⟨rfl, rfl⟩ ⟨rfl, rfl⟩ mem_auto (by omega) rfl ?_)⟩
      intro A10 c10 w7 news hG hn H7
      have hb7 := hG.below _ _ hb6.size hb6 hge
      refine ⟨fun _ => hb7, ?_⟩
      simp only [Nat.zero_add, List.nil_append] at H7 ⊢
      obtain ⟨q1, q2, H8⟩ := H7.sealR (dd := kSec) (xs := dt) mem_auto hM (Nat.zero_lt_succ 7) rfl (by omega)
      clear H H6 H7; have H := H8; clear H8
      (apply m_pure (i := 18) rfl (by decide +kernel); intro _; exact rd_go; rfl)
      have hkw := (H.fact (Row kSec 8 A10 dt) mem_auto).imp (g := fun w' => kWr w' (mkW im i lst[i][k]) [.int .i64 i, .int .i64 lst[i][k].start, .slice A10 dt.length c10]) fun w' h => by
        refine ⟨A10, c10, by rw [hmd]; rfl, ?_, ?_, by rw [hmd]; exact q1, q2, by rw [hmd]; exact h⟩
        · simp only [mkW, rng]; omega
        · simp only [mkW, rng]; omega
      have H6 := H.add (f := Chunks kWr 3 (ys ++ [mkW im i lst[i][k]]) (cs ++ [.int .i64 i, .int .i64 lst[i][k].start, .slice A10 dt.length c10])) ((H.fact (Chunks kWr 3 ys cs) mem_auto).snoc hkw rfl)
      clear H hkw; have H := H6; clear H6
      refine m_one (i := 19) (by kernel_rfl) rfl (s_slice1 (cs := [_, _, _]) H ⟨rfl, rfl⟩ rfl rfl rfl rfl ?_)
      intro w8 b8 hb8 H8
      refine ⟨fun _ => hb7.trans (hb8.mono hb7.size), ?_⟩
      refine m_one (i := 20) (by kernel_rfl) rfl (t_append1 (j := 0) (i := 0) H8 rfl rfl ⟨rfl, rfl⟩ ⟨rfl, rfl⟩ rfl rfl (by omega) rfl ?_)
      intro Aw8 cw8 w9 hG8 H9
      refine ⟨fun h => (by cases h), ?_⟩
      (apply m_pure (i := 21) rfl (by decide +kernel); intro _; exact rd_go; rfl)
      refine m_end (by kernel_rfl) ?_
      clear H H8; have H := H9; clear H9
      repeat' (first | (apply l_rd; exact rd_go; rfl) | (apply q_rd; exact rd_go; rfl) | refine stp ?_ | refine bk_o rfl ?_ | refine c_true ⟨rfl, rfl⟩ ?_ | refine c_false ⟨rfl, rfl⟩ ?_ | (apply l_rdg; rfl; rfl; rfl; exact rd_go; rfl) | refine l_skip rfl rfl rfl rfl ?_ | (apply q_rdg; rfl; rfl; rfl; exact rd_go; rfl) | refine q_skip rfl rfl rfl rfl ?_ | (refine q_end ?_; clear H; intro _ H) | ((first | refine l_st (z_box H ?_) | refine l_st (s_alloc H rfl ?_)); clear H; intro _ _ _ H) | (refine l_st (t_build0 H rfl ?_); clear H; intro _ _ _ _ H) | (refine l_st (z_sto H ?_); clear H; intro _ H) | ((first | refine c_cond ⟨rfl, rfl⟩ ?_ ?_ | refine c_ncond ⟨rfl, rfl⟩ ?_ ?_ | refine l_split rfl rfl ?_ ?_ | refine q_split rfl rfl ?_ ?_ | refine l_nsplit rfl rfl ?_ ?_ | refine q_nsplit rfl rfl ?_ ?_) <;> intro _ <;> try (exfalso; omega)))
      have hln : (ys ++ [mkW im i lst[i][k]]).length = ys.length + 1 := by simp
      refine lk_n rfl (n' := lst[i].length - (k + 1)) (by omega) ⟨k + 1, Aw8, cw8, ys ++ [mkW im i lst[i][k]], cs ++ [.int .i64 i, .int .i64 lst[i][k].start, .slice A10 dt.length c10], by rw [hln]; rfl, hk', rfl, by rw [hys, List.take_succ_eq_append_getElem hk', List.map_append, List.append_assoc]; rfl, ?_⟩
      rw [hln]
      exact H.weak (List.nil_sublist _) (List.Sublist.refl _) (by simp)
    · repeat' (first | (apply l_rd; exact rd_go; rfl) | (apply q_rd; exact rd_go; rfl) | refine stp ?_ | refine bk_o rfl ?_ | refine c_true ⟨rfl, rfl⟩ ?_ | refine c_false ⟨rfl, rfl⟩ ?_ | (apply l_rdg; rfl; rfl; rfl; exact rd_go; rfl) | refine l_skip rfl rfl rfl rfl ?_ | (apply q_rdg; rfl; rfl; rfl; exact rd_go; rfl) | refine q_skip rfl rfl rfl rfl ?_ | (refine q_end ?_; clear H; intro _ H) | ((first | refine l_st (z_box H ?_) | refine l_st (s_alloc H rfl ?_)); clear H; intro _ _ _ H) | (refine l_st (t_build0 H rfl ?_); clear H; intro _ _ _ _ H) | (refine l_st (z_sto H ?_); clear H; intro _ H) | ((first | refine c_cond ⟨rfl, rfl⟩ ?_ ?_ | refine c_ncond ⟨rfl, rfl⟩ ?_ ?_ | refine l_split rfl rfl ?_ ?_ | refine q_split rfl rfl ?_ ?_ | refine l_nsplit rfl rfl ?_ ?_ | refine q_nsplit rfl rfl ?_ ?_) <;> intro _ <;> try (exfalso; omega)))
      have hk2 : k = lst[i].length := by omega
      exact lk_n rfl (n' := lst.length - (i + 1)) (by omega) ⟨i + 1, Aw, cw, ys, cs, rfl, hi4, rfl, by rw [hys, hxs, contUpto, List.getElem?_eq_getElem hi4, hk2, List.take_length]; rfl, H.weak (List.Sublist.refl _) (List.Sublist.refl _) (by simp)⟩
  · repeat' (first | (apply l_rd; exact rd_go; rfl) | (apply q_rd; exact rd_go; rfl) | refine stp ?_ | refine bk_o rfl ?_ | refine c_true ⟨rfl, rfl⟩ ?_ | refine c_false ⟨rfl, rfl⟩ ?_ | (apply l_rdg; rfl; rfl; rfl; exact rd_go; rfl) | refine l_skip rfl rfl rfl rfl ?_ | (apply q_rdg; rfl; rfl; rfl; exact rd_go; rfl) | refine q_skip rfl rfl rfl rfl ?_ | (refine q_end ?_; clear H; intro _ H) | ((first | refine l_st (z_box H ?_) | refine l_st (s_alloc H rfl ?_)); clear H; intro _ _ _ H) | (refine l_st (t_build0 H rfl ?_); clear H; intro _ _ _ _ H) | (refine l_st (z_sto H ?_); clear H; intro _ H) | ((first | refine c_cond ⟨rfl, rfl⟩ ?_ ?_ | refine c_ncond ⟨rfl, rfl⟩ ?_ ?_ | refine l_split rfl rfl ?_ ?_ | refine q_split rfl rfl ?_ ?_ | refine l_nsplit rfl rfl ?_ ?_ | refine q_nsplit rfl rfl ?_ ?_) <;> intro _ <;> try (exfalso; omega)))
    have hxc : xs = contents im lst := by rw [hxs, contents, show i = lst.length from by omega]
    subst hxc
    exact ret1 H rfl rfl rfl (H.fresh (j := 0) rfl mem_auto rfl)
end Go.Proofs.YtiolpldihoghiaaDoor

namespace Go.Proofs.YtiolpldihoghiaaDoor
open Go.RowKit
set_option linter.unusedVariables false
set_option linter.unusedSimpArgs false
set_option maxHeartbeats 16000000
def im0 : List (List Sec) := [[sec1 1, sec1 2, sec1 3]]
def wr1 (a b : Int) : Wr := ⟨0, a, [sec1 b]⟩
def lin1 : List Span := [⟨1, 1, 4⟩]
def lin2 : List Span := [⟨1, 1, 4⟩, ⟨2, 5, 6⟩]
def pta : Pt := ⟨0, lin1, markAll (cleanBm (sizesOf im0)) [wr1 0 8], (applySp im0 [wr1 0 8]).1⟩
def ptb : Pt := ⟨1, lin2, markAll (cleanBm (sizesOf im0)) [wr1 2 9], (applySp im0 [wr1 2 9]).1⟩
def awc : Cyc := ⟨4, 6, 7, [], [wr1 0 1, wr1 2 9]⟩
theorem aw_undo : undoSp pta 4 = ([[⟨0, 1⟩]], 0) := by kernel_rfl
theorem aw_betw : betwSp pta ptb = ([[⟨0, 1⟩, ⟨2, 1⟩]], 0) := by kernel_rfl
theorem aw_cyc : cycSp pta ptb 6 7 [] = (awc, 0) := by kernel_rfl
def fSpan (x : Span) : List Value := [.int .i64 x.epoch, .int .i64 x.from_, .int .i64 x.to]
theorem span_k {x : Span} (h : rng .i64 x.epoch ∧ rng .i64 x.from_ ∧ rng .i64 x.to) (w : World) : kSpan w x (fSpan x) := ⟨rfl, h⟩
theorem ext_k {x : Ext} (h : rng .i64 x.start ∧ rng .i64 x.count) (w : World) : kExt w x (fE x) := ⟨rfl, h⟩
theorem wr_one {w : World} {M : Nat → Prop} {A : Option Addr} {a b : Int} {c : Nat} (ha : rng .i64 a) (h1 : 1 ≤ c) (h2 : c ≤ 9223372036854775807) (h : Stab w M (Row kSec 8 A [sec1 b])) : Stab w M (fun w' => kWr w' (wr1 a b) [.int .i64 0, .int .i64 a, .slice A 1 c]) :=
  h.imp fun w' h => ⟨A, c, rfl, (by decide : rng .i64 0), ha, h1, h2, h⟩
theorem awake_any (M : Nat → Prop) (w : World) (hM : ∀ b, M b → b < w.heap.size) (hT : Stab w M TabF) : Ret Tryd.prog 11 [] w fun v _ => v = .bool true := by
  refine enter (M := M) (F := [TabF]) Tryd.func11 rfl rfl rfl (by simpa using hT) fun H => ?_
  repeat' (first | (apply l_rd; exact rd_go; rfl) | (apply q_rd; exact rd_go; rfl) | refine stp ?_ | refine bk_o rfl ?_ | refine c_true ⟨rfl, rfl⟩ ?_ | refine c_false ⟨rfl, rfl⟩ ?_ | (apply l_rdg; rfl; rfl; rfl; exact rd_go; rfl) | refine l_skip rfl rfl rfl rfl ?_ | (apply q_rdg; rfl; rfl; rfl; exact rd_go; rfl) | refine q_skip rfl rfl rfl rfl ?_ | (refine q_end ?_; clear H; intro _ H) | ((first | refine l_st (z_box H ?_) | refine l_st (s_alloc H rfl ?_)); clear H; intro _ _ _ H) | (refine l_st (t_build0 H rfl ?_); clear H; intro _ _ _ _ H) | (refine l_st (z_sto H ?_); clear H; intro _ H) | ((first | refine c_cond ⟨rfl, rfl⟩ ?_ ?_ | refine c_ncond ⟨rfl, rfl⟩ ?_ ?_ | refine l_split rfl rfl ?_ ?_ | refine q_split rfl rfl ?_ ?_ | refine l_nsplit rfl rfl ?_ ?_ | refine q_nsplit rfl rfl ?_ ?_) <;> intro _ <;> try (exfalso; omega)))
  refine l_st (t_slice (cs := [sec1 1, sec1 2, sec1 3].flatMap gSec) [.agg [_, _, _, _, _, _, _, _].toArray, .agg [_, _, _, _, _, _, _, _].toArray, .agg [_, _, _, _, _, _, _, _].toArray] H evp_auto rfl rfl rfl rfl rfl rfl rfl ?_)
  clear H; intro A1 c1 w1 _ _ H
  obtain ⟨s1, s2, H1⟩ := H.sealf (dd := kSec) (f := gSec) (xs := [sec1 1, sec1 2, sec1 3]) gSec_len (fun w' x hx => by
    simp only [List.mem_cons, List.not_mem_nil, or_false] at hx
    rcases hx with rfl | rfl | rfl <;> exact (sec1_ok (by decide)).k w') hM (by decide) rfl (by simp)
  clear H; have H := H1; clear H1
  repeat' (first | (apply l_rd; exact rd_go; rfl) | (apply q_rd; exact rd_go; rfl) | refine stp ?_ | refine bk_o rfl ?_ | refine c_true ⟨rfl, rfl⟩ ?_ | refine c_false ⟨rfl, rfl⟩ ?_ | (apply l_rdg; rfl; rfl; rfl; exact rd_go; rfl) | refine l_skip rfl rfl rfl rfl ?_ | (apply q_rdg; rfl; rfl; rfl; exact rd_go; rfl) | refine q_skip rfl rfl rfl rfl ?_ | (refine q_end ?_; clear H; intro _ H) | ((first | refine l_st (z_box H ?_) | refine l_st (s_alloc H rfl ?_)); clear H; intro _ _ _ H) | (refine l_st (t_build0 H rfl ?_); clear H; intro _ _ _ _ H) | (refine l_st (z_sto H ?_); clear H; intro _ H) | ((first | refine c_cond ⟨rfl, rfl⟩ ?_ ?_ | refine c_ncond ⟨rfl, rfl⟩ ?_ ?_ | refine l_split rfl rfl ?_ ?_ | refine q_split rfl rfl ?_ ?_ | refine l_nsplit rfl rfl ?_ ?_ | refine q_nsplit rfl rfl ?_ ?_) <;> intro _ <;> try (exfalso; omega)))
  refine l_st (t_slice (cs := [.slice A1 3 c1]) [.slice A1 3 c1] H evp_auto rfl rfl rfl rfl rfl rfl rfl ?_)
  clear H; intro A2 c2 w2 _ _ H
  obtain ⟨s3, s4, H1⟩ := H.seal1 (dd := kVol) (x := [sec1 1, sec1 2, sec1 3]) (kSl_of s1 s2 (H.fact _ mem_auto)) rfl hM (by decide)
  clear H; have H := H1.weak (F' := [Row kVol 1 A2 im0, TabF]) (List.Sublist.refl _) (List.Sublist.refl _) (by simp [im0]); clear H1
  repeat' (first | (apply l_rd; exact rd_go; rfl) | (apply q_rd; exact rd_go; rfl) | refine stp ?_ | refine bk_o rfl ?_ | refine c_true ⟨rfl, rfl⟩ ?_ | refine c_false ⟨rfl, rfl⟩ ?_ | (apply l_rdg; rfl; rfl; rfl; exact rd_go; rfl) | refine l_skip rfl rfl rfl rfl ?_ | (apply q_rdg; rfl; rfl; rfl; exact rd_go; rfl) | refine q_skip rfl rfl rfl rfl ?_ | (refine q_end ?_; clear H; intro _ H) | ((first | refine l_st (z_box H ?_) | refine l_st (s_alloc H rfl ?_)); clear H; intro _ _ _ H) | (refine l_st (t_build0 H rfl ?_); clear H; intro _ _ _ _ H) | (refine l_st (z_sto H ?_); clear H; intro _ H) | ((first | refine c_cond ⟨rfl, rfl⟩ ?_ ?_ | refine c_ncond ⟨rfl, rfl⟩ ?_ ?_ | refine l_split rfl rfl ?_ ?_ | refine q_split rfl rfl ?_ ?_ | refine l_nsplit rfl rfl ?_ ?_ | refine q_nsplit rfl rfl ?_ ?_) <;> intro _ <;> try (exfalso; omega)))
  refine l_st (t_slice (cs := lin1.flatMap fSpan) [.agg [_, _, _].toArray] H evp_auto rfl rfl rfl rfl rfl rfl rfl ?_)
  clear H; intro A3 c3 w3 _ _ H
  obtain ⟨s5, s6, H1⟩ := H.sealf (dd := kSpan) (f := fSpan) (xs := lin1) (fun _ => rfl) (fun w' x hx => by
    simp only [lin1, List.mem_cons, List.not_mem_nil, or_false] at hx
    subst hx; exact span_k (by decide) w') hM (by decide) rfl (by simp [lin1])
  clear H; have H := H1; clear H1
  repeat' (first | (apply l_rd; exact rd_go; rfl) | (apply q_rd; exact rd_go; rfl) | refine stp ?_ | refine bk_o rfl ?_ | refine c_true ⟨rfl, rfl⟩ ?_ | refine c_false ⟨rfl, rfl⟩ ?_ | (apply l_rdg; rfl; rfl; rfl; exact rd_go; rfl) | refine l_skip rfl rfl rfl rfl ?_ | (apply q_rdg; rfl; rfl; rfl; exact rd_go; rfl) | refine q_skip rfl rfl rfl rfl ?_ | (refine q_end ?_; clear H; intro _ H) | ((first | refine l_st (z_box H ?_) | refine l_st (s_alloc H rfl ?_)); clear H; intro _ _ _ H) | (refine l_st (t_build0 H rfl ?_); clear H; intro _ _ _ _ H) | (refine l_st (z_sto H ?_); clear H; intro _ H) | ((first | refine c_cond ⟨rfl, rfl⟩ ?_ ?_ | refine c_ncond ⟨rfl, rfl⟩ ?_ ?_ | refine l_split rfl rfl ?_ ?_ | refine q_split rfl rfl ?_ ?_ | refine l_nsplit rfl rfl ?_ ?_ | refine q_nsplit rfl rfl ?_ ?_) <;> intro _ <;> try (exfalso; omega)))
  refine l_st (k_call evs_auto H (one_any H.mu 0 8 _ (H.mu_lt hM) (by decide)) rfl ?_)
  rintro _ w4 ⟨A4, c4, rfl, s7, s8, hrow⟩ _ H1
  have H2 := H1.add hrow; clear H1 hrow H; have H := H2; clear H2
  repeat' (first | (apply l_rd; exact rd_go; rfl) | (apply q_rd; exact rd_go; rfl) | refine stp ?_ | refine bk_o rfl ?_ | refine c_true ⟨rfl, rfl⟩ ?_ | refine c_false ⟨rfl, rfl⟩ ?_ | (apply l_rdg; rfl; rfl; rfl; exact rd_go; rfl) | refine l_skip rfl rfl rfl rfl ?_ | (apply q_rdg; rfl; rfl; rfl; exact rd_go; rfl) | refine q_skip rfl rfl rfl rfl ?_ | (refine q_end ?_; clear H; intro _ H) | ((first | refine l_st (z_box H ?_) | refine l_st (s_alloc H rfl ?_)); clear H; intro _ _ _ H) | (refine l_st (t_build0 H rfl ?_); clear H; intro _ _ _ _ H) | (refine l_st (z_sto H ?_); clear H; intro _ H) | ((first | refine c_cond ⟨rfl, rfl⟩ ?_ ?_ | refine c_ncond ⟨rfl, rfl⟩ ?_ ?_ | refine l_split rfl rfl ?_ ?_ | refine q_split rfl rfl ?_ ?_ | refine l_nsplit rfl rfl ?_ ?_ | refine q_nsplit rfl rfl ?_ ?_) <;> intro _ <;> try (exfalso; omega)))
  refine l_st (t_slice (cs := [.int .i64 0, .int .i64 0, .slice A4 1 c4]) [.agg [_, _, _].toArray] H evp_auto rfl rfl rfl rfl rfl rfl rfl ?_)
  clear H; intro A5 c5 w5 _ _ H
  obtain ⟨s9, s10, H1⟩ := H.seal1 (dd := kWr) (x := wr1 0 8) (wr_one (by decide) s7 s8 (H.fact _ mem_auto)) rfl hM (by decide)
  clear H; have H := H1; clear H1
  repeat' (first | (apply l_rd; exact rd_go; rfl) | (apply q_rd; exact rd_go; rfl) | refine stp ?_ | refine bk_o rfl ?_ | refine c_true ⟨rfl, rfl⟩ ?_ | refine c_false ⟨rfl, rfl⟩ ?_ | (apply l_rdg; rfl; rfl; rfl; exact rd_go; rfl) | refine l_skip rfl rfl rfl rfl ?_ | (apply q_rdg; rfl; rfl; rfl; exact rd_go; rfl) | refine q_skip rfl rfl rfl rfl ?_ | (refine q_end ?_; clear H; intro _ H) | ((first | refine l_st (z_box H ?_) | refine l_st (s_alloc H rfl ?_)); clear H; intro _ _ _ H) | (refine l_st (t_build0 H rfl ?_); clear H; intro _ _ _ _ H) | (refine l_st (z_sto H ?_); clear H; intro _ H) | ((first | refine c_cond ⟨rfl, rfl⟩ ?_ ?_ | refine c_ncond ⟨rfl, rfl⟩ ?_ ?_ | refine l_split rfl rfl ?_ ?_ | refine q_split rfl rfl ?_ ?_ | refine l_nsplit rfl rfl ?_ ?_ | refine q_nsplit rfl rfl ?_ ?_) <;> intro _ <;> try (exfalso; omega)))
  have hpt := point_any H.mu 0 im0 [wr1 0 8] A2 A5 A3 c2 c5 1 c3 w5 (H.mu_lt hM) (by decide) (by decide) (H.fact _ mem_auto) (H.fact _ mem_auto)
  refine l_st (k_call evs_auto H (hpt.mono fun v w' _ (hp : PtRet _ _ _ pta.dirty pta.im v w') => hp) rfl ?_)
  rintro _ w6 ⟨A6, c6, A7, c7, rfl, _, _, hr1, hr2⟩ _ H1
  have H2 := ((H1.add hr1).add hr2).weak (F' := [Row kSpan 3 A3 pta.lin, Row kBm 2 A6 pta.dirty, Row kVol 1 A7 pta.im, Row kVol 1 A2 im0, TabF]) (List.Sublist.refl _) (List.Sublist.refl _) (by simp [pta]); clear hr1 hr2 hpt H H1
  have H := H2; clear H2
  repeat' (first | (apply l_rd; exact rd_go; rfl) | (apply q_rd; exact rd_go; rfl) | refine stp ?_ | refine bk_o rfl ?_ | refine c_true ⟨rfl, rfl⟩ ?_ | refine c_false ⟨rfl, rfl⟩ ?_ | (apply l_rdg; rfl; rfl; rfl; exact rd_go; rfl) | refine l_skip rfl rfl rfl rfl ?_ | (apply q_rdg; rfl; rfl; rfl; exact rd_go; rfl) | refine q_skip rfl rfl rfl rfl ?_ | (refine q_end ?_; clear H; intro _ H) | ((first | refine l_st (z_box H ?_) | refine l_st (s_alloc H rfl ?_)); clear H; intro _ _ _ H) | (refine l_st (t_build0 H rfl ?_); clear H; intro _ _ _ _ H) | (refine l_st (z_sto H ?_); clear H; intro _ H) | ((first | refine c_cond ⟨rfl, rfl⟩ ?_ ?_ | refine c_ncond ⟨rfl, rfl⟩ ?_ ?_ | refine l_split rfl rfl ?_ ?_ | refine q_split rfl rfl ?_ ?_ | refine l_nsplit rfl rfl ?_ ?_ | refine q_nsplit rfl rfl ?_ ?_) <;> intro _ <;> try (exfalso; omega)))
  refine l_st (t_slice (cs := lin2.flatMap fSpan) [.agg [_, _, _].toArray, .agg [_, _, _].toArray] H evp_auto rfl rfl rfl rfl rfl rfl rfl ?_)
  clear H; intro A8 c8 w7 _ _ H
  obtain ⟨s5', s6', H1⟩ := H.sealf (dd := kSpan) (f := fSpan) (xs := lin2) (fun _ => rfl) (fun w' x hx => by
    simp only [lin2, List.mem_cons, List.not_mem_nil, or_false] at hx
    rcases hx with rfl | rfl <;> exact span_k (by decide) w') hM (by decide) rfl (by simp [lin2])
  clear H; have H := H1; clear H1
  repeat' (first | (apply l_rd; exact rd_go; rfl) | (apply q_rd; exact rd_go; rfl) | refine stp ?_ | refine bk_o rfl ?_ | refine c_true ⟨rfl, rfl⟩ ?_ | refine c_false ⟨rfl, rfl⟩ ?_ | (apply l_rdg; rfl; rfl; rfl; exact rd_go; rfl) | refine l_skip rfl rfl rfl rfl ?_ | (apply q_rdg; rfl; rfl; rfl; exact rd_go; rfl) | refine q_skip rfl rfl rfl rfl ?_ | (refine q_end ?_; clear H; intro _ H) | ((first | refine l_st (z_box H ?_) | refine l_st (s_alloc H rfl ?_)); clear H; intro _ _ _ H) | (refine l_st (t_build0 H rfl ?_); clear H; intro _ _ _ _ H) | (refine l_st (z_sto H ?_); clear H; intro _ H) | ((first | refine c_cond ⟨rfl, rfl⟩ ?_ ?_ | refine c_ncond ⟨rfl, rfl⟩ ?_ ?_ | refine l_split rfl rfl ?_ ?_ | refine q_split rfl rfl ?_ ?_ | refine l_nsplit rfl rfl ?_ ?_ | refine q_nsplit rfl rfl ?_ ?_) <;> intro _ <;> try (exfalso; omega)))
  refine l_st (k_call evs_auto H (one_any H.mu 2 9 _ (H.mu_lt hM) (by decide)) rfl ?_)
  rintro _ w8 ⟨A9, c9, rfl, s7, s8, hrow⟩ _ H1
  have H2 := H1.add hrow; clear H1 hrow H; have H := H2; clear H2
  repeat' (first | (apply l_rd; exact rd_go; rfl) | (apply q_rd; exact rd_go; rfl) | refine stp ?_ | refine bk_o rfl ?_ | refine c_true ⟨rfl, rfl⟩ ?_ | refine c_false ⟨rfl, rfl⟩ ?_ | (apply l_rdg; rfl; rfl; rfl; exact rd_go; rfl) | refine l_skip rfl rfl rfl rfl ?_ | (apply q_rdg; rfl; rfl; rfl; exact rd_go; rfl) | refine q_skip rfl rfl rfl rfl ?_ | (refine q_end ?_; clear H; intro _ H) | ((first | refine l_st (z_box H ?_) | refine l_st (s_alloc H rfl ?_)); clear H; intro _ _ _ H) | (refine l_st (t_build0 H rfl ?_); clear H; intro _ _ _ _ H) | (refine l_st (z_sto H ?_); clear H; intro _ H) | ((first | refine c_cond ⟨rfl, rfl⟩ ?_ ?_ | refine c_ncond ⟨rfl, rfl⟩ ?_ ?_ | refine l_split rfl rfl ?_ ?_ | refine q_split rfl rfl ?_ ?_ | refine l_nsplit rfl rfl ?_ ?_ | refine q_nsplit rfl rfl ?_ ?_) <;> intro _ <;> try (exfalso; omega)))
  refine l_st (t_slice (cs := [.int .i64 0, .int .i64 2, .slice A9 1 c9]) [.agg [_, _, _].toArray] H evp_auto rfl rfl rfl rfl rfl rfl rfl ?_)
  clear H; intro A10 c10 w9 _ _ H
  obtain ⟨s9, s10, H1⟩ := H.seal1 (dd := kWr) (x := wr1 2 9) (wr_one (by decide) s7 s8 (H.fact _ mem_auto)) rfl hM (by decide)
  clear H; have H := H1; clear H1
  repeat' (first | (apply l_rd; exact rd_go; rfl) | (apply q_rd; exact rd_go; rfl) | refine stp ?_ | refine bk_o rfl ?_ | refine c_true ⟨rfl, rfl⟩ ?_ | refine c_false ⟨rfl, rfl⟩ ?_ | (apply l_rdg; rfl; rfl; rfl; exact rd_go; rfl) | refine l_skip rfl rfl rfl rfl ?_ | (apply q_rdg; rfl; rfl; rfl; exact rd_go; rfl) | refine q_skip rfl rfl rfl rfl ?_ | (refine q_end ?_; clear H; intro _ H) | ((first | refine l_st (z_box H ?_) | refine l_st (s_alloc H rfl ?_)); clear H; intro _ _ _ H) | (refine l_st (t_build0 H rfl ?_); clear H; intro _ _ _ _ H) | (refine l_st (z_sto H ?_); clear H; intro _ H) | ((first | refine c_cond ⟨rfl, rfl⟩ ?_ ?_ | refine c_ncond ⟨rfl, rfl⟩ ?_ ?_ | refine l_split rfl rfl ?_ ?_ | refine q_split rfl rfl ?_ ?_ | refine l_nsplit rfl rfl ?_ ?_ | refine q_nsplit rfl rfl ?_ ?_) <;> intro _ <;> try (exfalso; omega)))
  have hpt := point_any H.mu 1 im0 [wr1 2 9] A2 A10 A8 c2 c10 2 c8 w9 (H.mu_lt hM) (by decide) (by decide) (H.fact _ mem_auto) (H.fact _ mem_auto)
  refine l_st (k_call evs_auto H (hpt.mono fun v w' _ (hp : PtRet _ _ _ ptb.dirty ptb.im v w') => hp) rfl ?_)
  rintro _ w10 ⟨A11, c11, A12, c12, rfl, _, _, hr1, hr2⟩ _ H1
  have H2 := ((H1.add hr1).add hr2).weak (F' := [Row kSpan 3 A3 pta.lin, Row kBm 2 A6 pta.dirty, Row kVol 1 A7 pta.im, Row kSpan 3 A8 ptb.lin, Row kBm 2 A11 ptb.dirty, Row kVol 1 A12 ptb.im, TabF]) (List.Sublist.refl _) (List.Sublist.refl _) (by simp [ptb]); clear hr1 hr2 hpt H H1
  have H := H2; clear H2
  repeat' (first | (apply l_rd; exact rd_go; rfl) | (apply q_rd; exact rd_go; rfl) | refine stp ?_ | refine bk_o rfl ?_ | refine c_true ⟨rfl, rfl⟩ ?_ | refine c_false ⟨rfl, rfl⟩ ?_ | (apply l_rdg; rfl; rfl; rfl; exact rd_go; rfl) | refine l_skip rfl rfl rfl rfl ?_ | (apply q_rdg; rfl; rfl; rfl; exact rd_go; rfl) | refine q_skip rfl rfl rfl rfl ?_ | (refine q_end ?_; clear H; intro _ H) | ((first | refine l_st (z_box H ?_) | refine l_st (s_alloc H rfl ?_)); clear H; intro _ _ _ H) | (refine l_st (t_build0 H rfl ?_); clear H; intro _ _ _ _ H) | (refine l_st (z_sto H ?_); clear H; intro _ H) | ((first | refine c_cond ⟨rfl, rfl⟩ ?_ ?_ | refine c_ncond ⟨rfl, rfl⟩ ?_ ?_ | refine l_split rfl rfl ?_ ?_ | refine q_split rfl rfl ?_ ?_ | refine l_nsplit rfl rfl ?_ ?_ | refine q_nsplit rfl rfl ?_ ?_) <;> intro _ <;> try (exfalso; omega)))
  have hu := undo_any H.mu _ (H.mu_lt hM) pta 4 A3 A6 A7 c3 c6 c7 (by decide) (by decide) (by decide) (H.fact _ mem_auto) (H.fact _ mem_auto) (H.fact _ mem_auto) (H.fact _ mem_auto)
  rw [aw_undo] at hu
  refine l_st (k_call evs_auto H hu rfl ?_)
  rintro v0 w11 ⟨v1, hv0, hf⟩ hb _
  obtain rfl : v0 = .tuple #[v1, .int .i64 0] := hv0
  obtain ⟨A13, c13, hv, s11, s12, H1⟩ := H.takeRow hb hf hM Nat.zero_lt_one (by decide)
  obtain rfl : v1 = .slice A13 1 c13 := hv
  clear hu H hf; have H := H1; clear H1
  repeat' (first | (apply l_rd; exact rd_go; rfl) | (apply q_rd; exact rd_go; rfl) | refine stp ?_ | refine bk_o rfl ?_ | refine c_true ⟨rfl, rfl⟩ ?_ | refine c_false ⟨rfl, rfl⟩ ?_ | (apply l_rdg; rfl; rfl; rfl; exact rd_go; rfl) | refine l_skip rfl rfl rfl rfl ?_ | (apply q_rdg; rfl; rfl; rfl; exact rd_go; rfl) | refine q_skip rfl rfl rfl rfl ?_ | (refine q_end ?_; clear H; intro _ H) | ((first | refine l_st (z_box H ?_) | refine l_st (s_alloc H rfl ?_)); clear H; intro _ _ _ H) | (refine l_st (t_build0 H rfl ?_); clear H; intro _ _ _ _ H) | (refine l_st (z_sto H ?_); clear H; intro _ H) | ((first | refine c_cond ⟨rfl, rfl⟩ ?_ ?_ | refine c_ncond ⟨rfl, rfl⟩ ?_ ?_ | refine l_split rfl rfl ?_ ?_ | refine q_split rfl rfl ?_ ?_ | refine l_nsplit rfl rfl ?_ ?_ | refine q_nsplit rfl rfl ?_ ?_) <;> intro _ <;> try (exfalso; omega)))
  have hu := xtents_any H.mu _ (H.mu_lt hM) pta ptb A3 A6 A7 A8 A11 A12 c3 c6 c7 c8 c11 c12 (by decide) (by decide) (by decide) (by decide) (by decide) (by decide) (H.fact _ mem_auto) (H.fact _ mem_auto) (H.fact _ mem_auto) (H.fact _ mem_auto) (H.fact _ mem_auto) (H.fact _ mem_auto) (H.fact _ mem_auto)
  rw [aw_betw] at hu
  refine l_st (k_call evs_auto H hu rfl ?_)
  rintro v0 w12 ⟨v1, hv0, hf⟩ hb _
  obtain rfl : v0 = .tuple #[v1, .int .i64 0] := hv0
  obtain ⟨A14, c14, hv, s13, s14, H1⟩ := H.takeRow hb hf hM Nat.zero_lt_one (by decide)
  obtain rfl : v1 = .slice A14 1 c14 := hv
  clear hu H hf; have H := H1; clear H1
  repeat' (first | (apply l_rd; exact rd_go; rfl) | (apply q_rd; exact rd_go; rfl) | refine stp ?_ | refine bk_o rfl ?_ | refine c_true ⟨rfl, rfl⟩ ?_ | refine c_false ⟨rfl, rfl⟩ ?_ | (apply l_rdg; rfl; rfl; rfl; exact rd_go; rfl) | refine l_skip rfl rfl rfl rfl ?_ | (apply q_rdg; rfl; rfl; rfl; exact rd_go; rfl) | refine q_skip rfl rfl rfl rfl ?_ | (refine q_end ?_; clear H; intro _ H) | ((first | refine l_st (z_box H ?_) | refine l_st (s_alloc H rfl ?_)); clear H; intro _ _ _ H) | (refine l_st (t_build0 H rfl ?_); clear H; intro _ _ _ _ H) | (refine l_st (z_sto H ?_); clear H; intro _ H) | ((first | refine c_cond ⟨rfl, rfl⟩ ?_ ?_ | refine c_ncond ⟨rfl, rfl⟩ ?_ ?_ | refine l_split rfl rfl ?_ ?_ | refine q_split rfl rfl ?_ ?_ | refine l_nsplit rfl rfl ?_ ?_ | refine q_nsplit rfl rfl ?_ ?_) <;> intro _ <;> try (exfalso; omega)))
  have hu := cycle_any H.mu _ (H.mu_lt hM) pta ptb A3 A6 A7 A8 A11 A12 none c3 c6 c7 c8 c11 c12 0 (by decide) (by decide) (by decide) (by decide) (by decide) (by decide) 6 7 [] (by decide) (H.fact _ mem_auto) (H.fact _ mem_auto) (H.fact _ mem_auto) (H.fact _ mem_auto) (H.fact _ mem_auto) (H.fact _ mem_auto) (fun _ _ _ => Row.nil) (H.fact _ mem_auto)
  rw [aw_cyc] at hu
  refine l_st (k_call evs_auto H hu rfl ?_)
  rintro v0 w13 ⟨v1, v2, hv0, hf1, hf2⟩ hb H1
  obtain ⟨A15, c15, hv1, _, _, hr1⟩ := hf1.row (H.mu_lt hM) Nat.zero_lt_one (by decide)
  obtain ⟨A16, c16, hv2, _, _, hr2⟩ := hf2.row (H.mu_lt hM) (by decide) (by decide)
  obtain rfl : v1 = .slice A15 0 c15 := hv1
  obtain rfl : v2 = .slice A16 2 c16 := hv2
  obtain rfl : v0 = .tuple #[.agg [.int .i64 4, .int .i64 6, .int .i64 7, .slice A15 0 c15, .slice A16 2 c16].toArray, .int .i64 0] := hv0
  have H2 := H1.add hr2
  clear hu hf1 hf2 hr1 hr2 H H1; have H := H2; clear H2
  repeat' (first | (apply l_rd; exact rd_go; rfl) | (apply q_rd; exact rd_go; rfl) | refine stp ?_ | refine bk_o rfl ?_ | refine c_true ⟨rfl, rfl⟩ ?_ | refine c_false ⟨rfl, rfl⟩ ?_ | (apply l_rdg; rfl; rfl; rfl; exact rd_go; rfl) | refine l_skip rfl rfl rfl rfl ?_ | (apply q_rdg; rfl; rfl; rfl; exact rd_go; rfl) | refine q_skip rfl rfl rfl rfl ?_ | (refine q_end ?_; clear H; intro _ H) | ((first | refine l_st (z_box H ?_) | refine l_st (s_alloc H rfl ?_)); clear H; intro _ _ _ H) | (refine l_st (t_build0 H rfl ?_); clear H; intro _ _ _ _ H) | (refine l_st (z_sto H ?_); clear H; intro _ H) | ((first | refine c_cond ⟨rfl, rfl⟩ ?_ ?_ | refine c_ncond ⟨rfl, rfl⟩ ?_ ?_ | refine l_split rfl rfl ?_ ?_ | refine q_split rfl rfl ?_ ?_ | refine l_nsplit rfl rfl ?_ ?_ | refine q_nsplit rfl rfl ?_ ?_) <;> intro _ <;> try (exfalso; omega)))
  refine l_st (t_slice (cs := ([⟨0, 1⟩] : List Ext).flatMap fE) [.agg [_, _].toArray] H evp_auto rfl rfl rfl rfl rfl rfl rfl ?_)
  clear H; intro A17 c17 w14 _ _ H
  obtain ⟨s20, s21, H1⟩ := H.sealf (dd := kExt) (f := fE) (xs := [⟨0, 1⟩]) (fun _ => rfl) (fun w' x hx => by
    simp only [List.mem_cons, List.not_mem_nil, or_false] at hx
    subst hx <;> exact ext_k (by decide) w') hM (by decide) rfl (by simp)
  clear H; have H := H1; clear H1
  refine l_st (t_slice (cs := [.slice A17 1 c17]) [.slice A17 1 c17] H evp_auto rfl rfl rfl rfl rfl rfl rfl ?_)
  clear H; intro A18 c18 w14 _ _ H
  obtain ⟨s22, s23, H1⟩ := H.seal1 (dd := kSl 2 kExt) (x := [⟨0, 1⟩]) (kSl_of s20 s21 (H.fact (Row kExt 2 A17 [⟨0, 1⟩]) mem_auto)) rfl hM (by decide)
  clear H; have H := H1; clear H1
  repeat' (first | (apply l_rd; exact rd_go; rfl) | (apply q_rd; exact rd_go; rfl) | refine stp ?_ | refine bk_o rfl ?_ | refine c_true ⟨rfl, rfl⟩ ?_ | refine c_false ⟨rfl, rfl⟩ ?_ | (apply l_rdg; rfl; rfl; rfl; exact rd_go; rfl) | refine l_skip rfl rfl rfl rfl ?_ | (apply q_rdg; rfl; rfl; rfl; exact rd_go; rfl) | refine q_skip rfl rfl rfl rfl ?_ | (refine q_end ?_; clear H; intro _ H) | ((first | refine l_st (z_box H ?_) | refine l_st (s_alloc H rfl ?_)); clear H; intro _ _ _ H) | (refine l_st (t_build0 H rfl ?_); clear H; intro _ _ _ _ H) | (refine l_st (z_sto H ?_); clear H; intro _ H) | ((first | refine c_cond ⟨rfl, rfl⟩ ?_ ?_ | refine c_ncond ⟨rfl, rfl⟩ ?_ ?_ | refine l_split rfl rfl ?_ ?_ | refine q_split rfl rfl ?_ ?_ | refine l_nsplit rfl rfl ?_ ?_ | refine q_nsplit rfl rfl ?_ ?_) <;> intro _ <;> try (exfalso; omega)))
  have hs := sameExtss_any _ [[⟨0, 1⟩]] [[⟨0, 1⟩]] A13 A18 c13 c18 _ (H.fact _ mem_auto) (H.fact _ mem_auto)
  rw [decide_eq_true rfl] at hs
  refine l_st (k_call1 evs_auto H hs rfl ?_)
  clear H hs; intro _ _ H
  repeat' (first | (apply l_rd; exact rd_go; rfl) | (apply q_rd; exact rd_go; rfl) | refine stp ?_ | refine bk_o rfl ?_ | refine c_true ⟨rfl, rfl⟩ ?_ | refine c_false ⟨rfl, rfl⟩ ?_ | (apply l_rdg; rfl; rfl; rfl; exact rd_go; rfl) | refine l_skip rfl rfl rfl rfl ?_ | (apply q_rdg; rfl; rfl; rfl; exact rd_go; rfl) | refine q_skip rfl rfl rfl rfl ?_ | (refine q_end ?_; clear H; intro _ H) | ((first | refine l_st (z_box H ?_) | refine l_st (s_alloc H rfl ?_)); clear H; intro _ _ _ H) | (refine l_st (t_build0 H rfl ?_); clear H; intro _ _ _ _ H) | (refine l_st (z_sto H ?_); clear H; intro _ H) | ((first | refine c_cond ⟨rfl, rfl⟩ ?_ ?_ | refine c_ncond ⟨rfl, rfl⟩ ?_ ?_ | refine l_split rfl rfl ?_ ?_ | refine q_split rfl rfl ?_ ?_ | refine l_nsplit rfl rfl ?_ ?_ | refine q_nsplit rfl rfl ?_ ?_) <;> intro _ <;> try (exfalso; omega)))
  refine l_ung rfl rfl rfl (l_st (t_slice (cs := ([⟨0, 1⟩, ⟨2, 1⟩] : List Ext).flatMap fE) [.agg [_, _].toArray, .agg [_, _].toArray] H evp_auto rfl rfl rfl rfl rfl rfl rfl ?_))
  clear H; intro A19 c19 w15 _ _ H
  obtain ⟨s20, s21, H1⟩ := H.sealf (dd := kExt) (f := fE) (xs := [⟨0, 1⟩, ⟨2, 1⟩]) (fun _ => rfl) (fun w' x hx => by
    simp only [List.mem_cons, List.not_mem_nil, or_false] at hx
    rcases hx with rfl | rfl <;> exact ext_k (by decide) w') hM (by decide) rfl (by simp)
  clear H; have H := H1; clear H1
  refine l_ung rfl rfl rfl (l_st (t_slice (cs := [.slice A19 2 c19]) [.slice A19 2 c19] H evp_auto rfl rfl rfl rfl rfl rfl rfl ?_))
  clear H; intro A20 c20 w15 _ _ H
  obtain ⟨s22, s23, H1⟩ := H.seal1 (dd := kSl 2 kExt) (x := [⟨0, 1⟩, ⟨2, 1⟩]) (kSl_of s20 s21 (H.fact (Row kExt 2 A19 [⟨0, 1⟩, ⟨2, 1⟩]) mem_auto)) rfl hM (by decide)
  clear H; have H := H1; clear H1
  repeat' (first | (apply l_rd; exact rd_go; rfl) | (apply q_rd; exact rd_go; rfl) | refine stp ?_ | refine bk_o rfl ?_ | refine c_true ⟨rfl, rfl⟩ ?_ | refine c_false ⟨rfl, rfl⟩ ?_ | (apply l_rdg; rfl; rfl; rfl; exact rd_go; rfl) | refine l_skip rfl rfl rfl rfl ?_ | (apply q_rdg; rfl; rfl; rfl; exact rd_go; rfl) | refine q_skip rfl rfl rfl rfl ?_ | (refine q_end ?_; clear H; intro _ H) | ((first | refine l_st (z_box H ?_) | refine l_st (s_alloc H rfl ?_)); clear H; intro _ _ _ H) | (refine l_st (t_build0 H rfl ?_); clear H; intro _ _ _ _ H) | (refine l_st (z_sto H ?_); clear H; intro _ H) | ((first | refine c_cond ⟨rfl, rfl⟩ ?_ ?_ | refine c_ncond ⟨rfl, rfl⟩ ?_ ?_ | refine l_split rfl rfl ?_ ?_ | refine q_split rfl rfl ?_ ?_ | refine l_nsplit rfl rfl ?_ ?_ | refine q_nsplit rfl rfl ?_ ?_) <;> intro _ <;> try (exfalso; omega)))
  have hs := sameExtss_any _ [[⟨0, 1⟩, ⟨2, 1⟩]] [[⟨0, 1⟩, ⟨2, 1⟩]] A14 A20 c14 c20 _ (H.fact _ mem_auto) (H.fact _ mem_auto)
  rw [decide_eq_true rfl] at hs
  refine l_st (k_callg1 evs_auto rfl rfl rfl H hs rfl ?_)
  clear H hs; intro _ _ H
  repeat' (first | (apply l_rd; exact rd_go; rfl) | (apply q_rd; exact rd_go; rfl) | refine stp ?_ | refine bk_o rfl ?_ | refine c_true ⟨rfl, rfl⟩ ?_ | refine c_false ⟨rfl, rfl⟩ ?_ | (apply l_rdg; rfl; rfl; rfl; exact rd_go; rfl) | refine l_skip rfl rfl rfl rfl ?_ | (apply q_rdg; rfl; rfl; rfl; exact rd_go; rfl) | refine q_skip rfl rfl rfl rfl ?_ | (refine q_end ?_; clear H; intro _ H) | ((first | refine l_st (z_box H ?_) | refine l_st (s_alloc H rfl ?_)); clear H; intro _ _ _ H) | (refine l_st (t_build0 H rfl ?_); clear H; intro _ _ _ _ H) | (refine l_st (z_sto H ?_); clear H; intro _ H) | ((first | refine c_cond ⟨rfl, rfl⟩ ?_ ?_ | refine c_ncond ⟨rfl, rfl⟩ ?_ ?_ | refine l_split rfl rfl ?_ ?_ | refine q_split rfl rfl ?_ ?_ | refine l_nsplit rfl rfl ?_ ?_ | refine q_nsplit rfl rfl ?_ ?_) <;> intro _ <;> try (exfalso; omega)))
  obtain ⟨A21, c21, _, _, _, _, H1⟩ := H.openWr (A := A16) (xs := awc.writes) (i := 0) mem_auto (by decide)
  obtain ⟨cs0, _, hd0, H2⟩ := H1.openE (dd := kSec) (sz := 8) (A := A21) (i := 0) (xs := awc.writes[0].data) (x1 := sec1 1) mem_auto (by decide) rfl
  obtain rfl := hd0.now.1
  clear H H1; have H := H2; clear H2
  refine l_rdg rfl rfl rfl (rd_index (xs := awc.writes) H ⟨rfl, rfl⟩ mem_auto ⟨rfl, rfl⟩ (i := 0) rfl (by decide)) rfl ?_
  repeat' (first | (apply l_rd; exact rd_go; rfl) | (apply q_rd; exact rd_go; rfl) | refine stp ?_ | refine bk_o rfl ?_ | refine c_true ⟨rfl, rfl⟩ ?_ | refine c_false ⟨rfl, rfl⟩ ?_ | (apply l_rdg; rfl; rfl; rfl; exact rd_go; rfl) | refine l_skip rfl rfl rfl rfl ?_ | (apply q_rdg; rfl; rfl; rfl; exact rd_go; rfl) | refine q_skip rfl rfl rfl rfl ?_ | (refine q_end ?_; clear H; intro _ H) | ((first | refine l_st (z_box H ?_) | refine l_st (s_alloc H rfl ?_)); clear H; intro _ _ _ H) | (refine l_st (t_build0 H rfl ?_); clear H; intro _ _ _ _ H) | (refine l_st (z_sto H ?_); clear H; intro _ H) | ((first | refine c_cond ⟨rfl, rfl⟩ ?_ ?_ | refine c_ncond ⟨rfl, rfl⟩ ?_ ?_ | refine l_split rfl rfl ?_ ?_ | refine q_split rfl rfl ?_ ?_ | refine l_nsplit rfl rfl ?_ ?_ | refine q_nsplit rfl rfl ?_ ?_) <;> intro _ <;> try (exfalso; omega)))
  refine l_rdg rfl rfl rfl (rd_index (xs := awc.writes[0].data) H ⟨rfl, rfl⟩ mem_auto ⟨rfl, rfl⟩ (i := 0) rfl (by decide)) rfl ?_
  repeat' (first | (apply l_rd; exact rd_go; rfl) | (apply q_rd; exact rd_go; rfl) | refine stp ?_ | refine bk_o rfl ?_ | refine c_true ⟨rfl, rfl⟩ ?_ | refine c_false ⟨rfl, rfl⟩ ?_ | (apply l_rdg; rfl; rfl; rfl; exact rd_go; rfl) | refine l_skip rfl rfl rfl rfl ?_ | (apply q_rdg; rfl; rfl; rfl; exact rd_go; rfl) | refine q_skip rfl rfl rfl rfl ?_ | (refine q_end ?_; clear H; intro _ H) | ((first | refine l_st (z_box H ?_) | refine l_st (s_alloc H rfl ?_)); clear H; intro _ _ _ H) | (refine l_st (t_build0 H rfl ?_); clear H; intro _ _ _ _ H) | (refine l_st (z_sto H ?_); clear H; intro _ H) | ((first | refine c_cond ⟨rfl, rfl⟩ ?_ ?_ | refine c_ncond ⟨rfl, rfl⟩ ?_ ?_ | refine l_split rfl rfl ?_ ?_ | refine q_split rfl rfl ?_ ?_ | refine l_nsplit rfl rfl ?_ ?_ | refine q_nsplit rfl rfl ?_ ?_) <;> intro _ <;> try (exfalso; omega)))
  refine l_rdg rfl rfl rfl (rd_eq_sec1 (s := sec1 1) ⟨rfl, rfl⟩ ⟨rfl, rfl⟩ rfl) rfl ?_
  repeat' (first | (apply l_rd; exact rd_go; rfl) | (apply q_rd; exact rd_go; rfl) | refine stp ?_ | refine bk_o rfl ?_ | refine c_true ⟨rfl, rfl⟩ ?_ | refine c_false ⟨rfl, rfl⟩ ?_ | (apply l_rdg; rfl; rfl; rfl; exact rd_go; rfl) | refine l_skip rfl rfl rfl rfl ?_ | (apply q_rdg; rfl; rfl; rfl; exact rd_go; rfl) | refine q_skip rfl rfl rfl rfl ?_ | (refine q_end ?_; clear H; intro _ H) | ((first | refine l_st (z_box H ?_) | refine l_st (s_alloc H rfl ?_)); clear H; intro _ _ _ H) | (refine l_st (t_build0 H rfl ?_); clear H; intro _ _ _ _ H) | (refine l_st (z_sto H ?_); clear H; intro _ H) | ((first | refine c_cond ⟨rfl, rfl⟩ ?_ ?_ | refine c_ncond ⟨rfl, rfl⟩ ?_ ?_ | refine l_split rfl rfl ?_ ?_ | refine q_split rfl rfl ?_ ?_ | refine l_nsplit rfl rfl ?_ ?_ | refine q_nsplit rfl rfl ?_ ?_) <;> intro _ <;> try (exfalso; omega)))
  obtain ⟨A22, c22, _, _, _, _, H1⟩ := H.openWr (A := A16) (xs := awc.writes) (i := 1) mem_auto (by decide)
  obtain ⟨cs1, _, hd1, H2⟩ := H1.openE (dd := kSec) (sz := 8) (A := A22) (i := 0) (xs := awc.writes[1].data) (x1 := sec1 9) mem_auto (by decide) rfl
  obtain rfl := hd1.now.1
  clear H H1; have H := H2; clear H2
  refine l_rdg rfl rfl rfl (rd_index (xs := awc.writes) H ⟨rfl, rfl⟩ mem_auto ⟨rfl, rfl⟩ (i := 1) rfl (by decide)) rfl ?_
  repeat' (first | (apply l_rd; exact rd_go; rfl) | (apply q_rd; exact rd_go; rfl) | refine stp ?_ | refine bk_o rfl ?_ | refine c_true ⟨rfl, rfl⟩ ?_ | refine c_false ⟨rfl, rfl⟩ ?_ | (apply l_rdg; rfl; rfl; rfl; exact rd_go; rfl) | refine l_skip rfl rfl rfl rfl ?_ | (apply q_rdg; rfl; rfl; rfl; exact rd_go; rfl) | refine q_skip rfl rfl rfl rfl ?_ | (refine q_end ?_; clear H; intro _ H) | ((first | refine l_st (z_box H ?_) | refine l_st (s_alloc H rfl ?_)); clear H; intro _ _ _ H) | (refine l_st (t_build0 H rfl ?_); clear H; intro _ _ _ _ H) | (refine l_st (z_sto H ?_); clear H; intro _ H) | ((first | refine c_cond ⟨rfl, rfl⟩ ?_ ?_ | refine c_ncond ⟨rfl, rfl⟩ ?_ ?_ | refine l_split rfl rfl ?_ ?_ | refine q_split rfl rfl ?_ ?_ | refine l_nsplit rfl rfl ?_ ?_ | refine q_nsplit rfl rfl ?_ ?_) <;> intro _ <;> try (exfalso; omega)))
  refine l_rdg rfl rfl rfl (rd_index (xs := awc.writes[1].data) H ⟨rfl, rfl⟩ mem_auto ⟨rfl, rfl⟩ (i := 0) rfl (by decide)) rfl ?_
  repeat' (first | (apply l_rd; exact rd_go; rfl) | (apply q_rd; exact rd_go; rfl) | refine stp ?_ | refine bk_o rfl ?_ | refine c_true ⟨rfl, rfl⟩ ?_ | refine c_false ⟨rfl, rfl⟩ ?_ | (apply l_rdg; rfl; rfl; rfl; exact rd_go; rfl) | refine l_skip rfl rfl rfl rfl ?_ | (apply q_rdg; rfl; rfl; rfl; exact rd_go; rfl) | refine q_skip rfl rfl rfl rfl ?_ | (refine q_end ?_; clear H; intro _ H) | ((first | refine l_st (z_box H ?_) | refine l_st (s_alloc H rfl ?_)); clear H; intro _ _ _ H) | (refine l_st (t_build0 H rfl ?_); clear H; intro _ _ _ _ H) | (refine l_st (z_sto H ?_); clear H; intro _ H) | ((first | refine c_cond ⟨rfl, rfl⟩ ?_ ?_ | refine c_ncond ⟨rfl, rfl⟩ ?_ ?_ | refine l_split rfl rfl ?_ ?_ | refine q_split rfl rfl ?_ ?_ | refine l_nsplit rfl rfl ?_ ?_ | refine q_nsplit rfl rfl ?_ ?_) <;> intro _ <;> try (exfalso; omega)))
  refine l_rdg rfl rfl rfl (rd_eq_sec1 (s := sec1 9) ⟨rfl, rfl⟩ ⟨rfl, rfl⟩ rfl) rfl ?_
  repeat' (first | (apply l_rd; exact rd_go; rfl) | (apply q_rd; exact rd_go; rfl) | refine stp ?_ | refine bk_o rfl ?_ | refine c_true ⟨rfl, rfl⟩ ?_ | refine c_false ⟨rfl, rfl⟩ ?_ | (apply l_rdg; rfl; rfl; rfl; exact rd_go; rfl) | refine l_skip rfl rfl rfl rfl ?_ | (apply q_rdg; rfl; rfl; rfl; exact rd_go; rfl) | refine q_skip rfl rfl rfl rfl ?_ | (refine q_end ?_; clear H; intro _ H) | ((first | refine l_st (z_box H ?_) | refine l_st (s_alloc H rfl ?_)); clear H; intro _ _ _ H) | (refine l_st (t_build0 H rfl ?_); clear H; intro _ _ _ _ H) | (refine l_st (z_sto H ?_); clear H; intro _ H) | ((first | refine c_cond ⟨rfl, rfl⟩ ?_ ?_ | refine c_ncond ⟨rfl, rfl⟩ ?_ ?_ | refine l_split rfl rfl ?_ ?_ | refine q_split rfl rfl ?_ ?_ | refine l_nsplit rfl rfl ?_ ?_ | refine q_nsplit rfl rfl ?_ ?_) <;> intro _ <;> try (exfalso; omega)))
  exact ret1 H rfl rfl rfl rfl
end Go.Proofs.YtiolpldihoghiaaDoor

namespace Go.Proofs.YtiolpldihoghiaaDoor
open Go.RowKit
set_option linter.unusedVariables false
set_option linter.unusedSimpArgs false
section
variable {P : Program}
/-- A type whose readings are of the form 'rep', in sz cells. -/
def Opens {α : Type} (P : Program) (t : TypeId) (sz : Nat) (rep : Rp α) : Prop :=
  ∀ (H : Type) (enc : TypeId × Value → H) (w : World) (fuel : Nat) (cs : List Value) (x : DataW H × List MemPlace), DataW.trod enc P w 0 (fun _ => true) true fuel t cs = some x → (∀ n ∈ x.1.weights P t, n ≤ reachBytes) → cs.length = sz ∧ ∃ v, rep w v cs
theorem opens_int {t : TypeId} {k : IntKind} (hu : P.underlying t = some (.int k)) : Opens P t 1 (kInt k) := by
  intro H enc w fuel cs x h _
  obtain ⟨n, rfl, _, hw⟩ := DataW.trod_int hu h
  refine ⟨rfl, n, rfl, ?_⟩
  simp only [Lit.wf, Bool.and_eq_true, decide_eq_true_eq] at hw
  cases k <;> simp [rng, IntKind.min, IntKind.max, IntKind.signed, IntKind.bits] at hw ⊢ <;> omega
theorem opens_bool {t : TypeId} (hu : P.underlying t = some .bool) : Opens P t 1 kBool := by
  intro H enc w fuel cs x h _
  obtain ⟨b, rfl, _⟩ := DataW.trod_bool hu h
  exact ⟨rfl, b, rfl⟩
theorem weightsAll_mem {H : Type} {e : TypeId} : ∀ {l : List (DataW H)} {d : DataW H}, d ∈ l → ∀ n ∈ d.weights P e, n ∈ DataW.weightsAll P e l
  | d0 :: l, d, hd, n, hn => by
    simp only [DataW.weightsAll, List.mem_append]
    rcases List.mem_cons.1 hd with rfl | hd
    · exact .inl hn
    · exact .inr (weightsAll_mem hd n hn)
theorem opens_slice {α : Type} {t e : TypeId} {sz : Nat} {rep : Rp α} (hu : P.underlying t = some (.slice e)) (hc : P.cellsOf e = sz) (hb : Nat.blt 0 (P.bytesOf e) = true) (h : Opens P e sz rep) : Opens P t 1 (kSl sz rep) := by
  simp only [Nat.blt_eq] at hb
  intro H enc w fuel cs x hx hwt
  rcases Deep.open_slice hu hx with ⟨rfl, _⟩ | ⟨a, len, cap, m, n, D, Pl, rfl, _, hl, hm, hmm, rfl, hel⟩
  · exact ⟨rfl, [], none, 0, rfl, Nat.le_refl _, by omega, Row.nil⟩
  · simp only [if_true] at hmm
    subst hmm
    have hw2 : ∀ n ∈ (DataW.slice ((List.range len).map D) ((List.range (m - len)).map fun j => D (len + j))).weights P t, n ≤ reachBytes := hwt
    simp only [DataW.weights, hu, List.mem_cons, List.mem_append, List.length_map, List.length_range] at hw2
    have hlen : len ≤ 140737488355328 := by
      have h1 := hw2 ((len + (m - len)) * P.bytesOf e) (.inl rfl)
      have h2 : len ≤ (len + (m - len)) * P.bytesOf e := Nat.le_trans (Nat.le_add_right _ _) (Nat.le_mul_of_pos_right _ hb)
      have h3 := reachBytes_lt
      omega
    have hall : ∀ i, i < len → ∃ v, ∃ cs', w.cells? 0 (a.add (i * P.cellsOf e)) (P.cellsOf e) = some cs' ∧ cs'.length = sz ∧ rep w v cs' := fun i hi => by
      obtain ⟨cs', h1, h2⟩ := hel i (by omega)
      obtain ⟨h3, v, h4⟩ := h H enc w n cs' _ h2 (fun k hk => hw2 k (.inr (.inl (weightsAll_mem (List.mem_map.2 ⟨i, List.mem_range.2 hi, rfl⟩) k hk))))
      exact ⟨v, cs', h1, h3, h4⟩
    by_cases h0 : len = 0
    · subst h0; exact ⟨rfl, [], some a, m, rfl, Nat.zero_le _, (by simpa [maxLen] using hm), Row.nil⟩
    · have : Nonempty α := by obtain ⟨v, _⟩ := hall 0 (by omega); exact ⟨v⟩
      have : Inhabited α := Classical.inhabited_of_nonempty this
      obtain ⟨V, hV⟩ := Deep.choose_lt (p := fun i v => ∃ cs', w.cells? 0 (a.add (i * P.cellsOf e)) (P.cellsOf e) = some cs' ∧ cs'.length = sz ∧ rep w v cs') hall
      refine ⟨rfl, (List.range len).map V, some a, m, by simp, by simpa using hl, (by simpa [maxLen] using hm), by simpa using hlen, fun _ => ⟨a, rfl, fun i v hv => ?_⟩⟩
      rw [List.getElem?_map] at hv
      have hi : i < len := by
        rcases Nat.lt_or_ge i len with h | h
        · exact h
        · rw [List.getElem?_eq_none (by simpa using h)] at hv; cases hv
      rw [List.getElem?_range hi] at hv
      simp only [Option.map_some, Option.some.injEq] at hv
      subst hv
      obtain ⟨cs', h1, h2, h3⟩ := hV i hi
      refine ⟨cs', h2, h3, fun j u hj => ?_⟩
      rw [hc] at h1
      obtain ⟨_, h6, h5⟩ := World.cells?_some h1
      have := h5 j (by have := (List.getElem?_eq_some_iff.1 hj).1; omega)
      rw [add_add] at this
      rw [this]; exact hj
theorem open_fields {t : TypeId} {fs : Array Field} {H : Type} {enc : TypeId × Value → H} {w : World} {fuel : Nat} {cs : List Value} {x : DataW H × List MemPlace} (hu : P.underlying t = some (.struct fs))
    (h : DataW.trod enc P w 0 (fun _ => true) true fuel t cs = some x) (hwt : ∀ n ∈ x.1.weights P t, n ≤ reachBytes) :
    cs.length = P.cellsOf t ∧ ∀ (i : Nat) (f : Field), fs[i]? = some f → ∃ y n, DataW.trod enc P w 0 (fun _ => true) true n f.type ((cs.drop f.offset).take (P.cellsOf f.type)) = some y ∧ ∀ k ∈ y.1.weights P f.type, k ≤ reachBytes := by
  obtain ⟨xs, n, _, rfl, hl, hn, hf⟩ := DataW.trod_struct hu h
  refine ⟨hl, fun i f hi => ?_⟩
  have h1 := hf i f hi
  have hlt : i < xs.length := by rw [hn]; exact (Array.getElem?_eq_some_iff.1 hi).1
  rw [List.getElem?_eq_getElem hlt] at h1
  refine ⟨_, n, h1, fun k hk => hwt k ?_⟩
  simp only [DataW.weights, hu]
  exact DataW.weights_mem_each (j := i) (t := f.type) (d := xs[i].1) (by simp [hi]) (by simp [List.getElem?_eq_getElem hlt]) k hk
theorem open_items {t e : TypeId} {len : Nat} {H : Type} {enc : TypeId × Value → H} {w : World} {fuel : Nat} {cs : List Value} {x : DataW H × List MemPlace} (hu : P.underlying t = some (.array len e))
    (h : DataW.trod enc P w 0 (fun _ => true) true fuel t cs = some x) (hwt : ∀ n ∈ x.1.weights P t, n ≤ reachBytes) :
    cs.length = P.cellsOf t ∧ ∀ i, i < len → ∃ y n, DataW.trod enc P w 0 (fun _ => true) true n e ((cs.drop (i * P.cellsOf e)).take (P.cellsOf e)) = some y ∧ ∀ k ∈ y.1.weights P e, k ≤ reachBytes := by
  obtain ⟨xs, n, _, rfl, hl, hn, hf⟩ := DataW.trod_array hu h
  refine ⟨hl, fun i hi => ?_⟩
  have h1 := hf i hi
  have hlt : i < xs.length := by omega
  rw [List.getElem?_eq_getElem hlt] at h1
  refine ⟨_, n, h1, fun k hk => hwt k ?_⟩
  simp only [DataW.weights, hu]
  exact weightsAll_mem (d := xs[i].1) (List.mem_map.2 ⟨_, List.getElem_mem hlt, rfl⟩) k hk

theorem len2 {cs : List Value} (h : cs.length = 2) : ∃ a b, cs = [a, b] := match cs, h with | [a, b], _ => ⟨a, b, rfl⟩
theorem len3 {cs : List Value} (h : cs.length = 3) : ∃ a b c, cs = [a, b, c] := match cs, h with | [a, b, c], _ => ⟨a, b, c, rfl⟩
theorem len4 {cs : List Value} (h : cs.length = 4) : ∃ a b c d, cs = [a, b, c, d] := match cs, h with | [a, b, c, d], _ => ⟨a, b, c, d, rfl⟩
theorem len5 {cs : List Value} (h : cs.length = 5) : ∃ a b c d e, cs = [a, b, c, d, e] := match cs, h with | [a, b, c, d, e], _ => ⟨a, b, c, d, e, rfl⟩
/-! ### What is read stays while the old blocks do -/
def Same (w w' : World) : Prop := ∀ b, b < w.heap.size → w'.heap[b]? = w.heap[b]?
class Kept {α : Type} (rep : Rp α) : Prop where
  kept : ∀ {w w' : World} {x cs}, Same w w' → rep w x cs → rep w' x cs
instance (k : IntKind) : Kept (kInt k) := ⟨fun _ h => h⟩
instance : Kept kBool := ⟨fun _ h => h⟩
theorem Row.kept {α : Type} {rep : Rp α} [hK : Kept rep] {sz : Nat} {A : Option Addr} {xs : List α} {w w' : World} (hs : Same w w') (h : Row rep sz A xs w) : Row rep sz A xs w' :=
  ⟨h.len, fun hne => by
    obtain ⟨a, ha, hc⟩ := h.at_ hne
    exact ⟨a, ha, fun i x hx => by
      obtain ⟨cs, h1, h2, h3⟩ := hc i x hx
      exact ⟨cs, h1, hK.kept hs h2, fun j u hj => cell_kept hs (h3 j u hj)⟩⟩⟩
instance {α : Type} {sz : Nat} {rep : Rp α} [Kept rep] : Kept (kSl sz rep) := ⟨fun hs h => by obtain ⟨A, c, h1, h2, h3, h4⟩ := h; exact ⟨A, c, h1, h2, h3, h4.kept hs⟩⟩
theorem Row.stab {α : Type} {rep : Rp α} [hK : Kept rep] {sz : Nat} {A : Option Addr} {xs : List α} {w : World} (h : Row rep sz A xs w) : Stab w (fun _ => False) (Row rep sz A xs) :=
  fun w' _ hw => h.kept fun b hb => hw b hb (fun h => h)

/-! ### A law's end: it has answered true, and nothing that was there has turned -/
variable {H : Type} {enc : TypeId × Value → H}
theorem post_below {f : Func} {s : ChangeSpec} {apart fresh handsOn again : Bool} {W W' : World} {args : Array Value} {v : Value} {ds gs : List (DataW H)} {before pa pv : List MemPlace}
    (hW : DataW.Whole enc P f.params.toList s.vars apart W args.toList ds gs before)
    (hres : ∀ (b : Nat) (sp : Nat → Bool) (hd : Bool), DataW.TrodAll enc P W' b sp hd f.resultTypes.toList (v.resultList f.resultTypes.size) (s.fn H (ds ++ gs)).results [])
    (hargs : ∀ sp : Nat → Bool, (∀ p ∈ before, sp p.block = true) → DataW.TrodAll enc P W' 0 sp true f.params.toList args.toList (s.fn H (ds ++ gs)).args pa)
    (hvars : ∀ sp : Nat → Bool, (∀ p ∈ before, sp p.block = true) → DataW.TrodVars enc P W' sp s.vars (s.fn H (ds ++ gs)).vars pv)
    (hps : before = pa ++ pv) (hb : Below W.heap.size W W')
    (hok : ∀ (j : Nat) (t : TypeId) (r : Value), f.resultTypes[j]? = some t → (v.resultList f.resultTypes.size)[j]? = some r → Value.okWide P W' .any 0 t r) :
    s.post enc P f apart fresh handsOn again W args v W' := by
  have hlt : ∀ p ∈ before, p.block < W.heap.size := fun p hp => hW.lt p hp
  have hold : ∀ p ∈ before, (fun b => decide (b < W.heap.size)) p.block = true := fun p hp => by simpa using hlt p hp
  refine ⟨ds, gs, before, [], pa, pv, hW, hres _ _ _, hargs _ hold, hvars _ hold, World.keptBut_mono (fun p hp => ⟨hp, ?_⟩) (hb.frame (· ∈ before)), fun _ => ?_⟩
  · rw [hps, List.mem_append] at hp; exact Or.inr hp
  · obtain ⟨_, _, _, _, _, hz, hn⟩ := hW
    refine ⟨hok, _, _, ([] ++ pa) ++ pv, ⟨[] ++ pa, pv, ChangeShapes.trodAll_append (hargs _ (fun _ _ => rfl)) (hres _ _ _), hvars _ (fun _ _ => rfl), rfl, ?_, ?_⟩, ?_⟩
    · intro b off hp
      have hin : MemPlace.cell b off ∈ before := by rw [hps]; simpa using hp
      rw [hb.frozen (hlt _ hin)]
      exact hz b off hin
    · intro ha
      have := hn ha
      rw [hps] at this
      simpa using this
    · intro p hp _
      simpa [hps] using hp
theorem trodAll_below : ∀ {ts : List TypeId} {vs : List Value} {ds : List (DataW H)} {ps : List MemPlace} {W W' : World} {sp : Nat → Bool}, Below W.heap.size W W' → (∀ p ∈ ps, p.block < W.heap.size) → DataW.TrodAll enc P W 0 sp true ts vs ds ps → DataW.TrodAll enc P W' 0 sp true ts vs ds ps
  | [], [], [], _, _, _, _, _, _, h => h
  | _ :: _, _ :: _, _ :: _, _, _, _, _, hb, hlt, ⟨p, q, ⟨n, h1⟩, h2, e⟩ =>
    ⟨p, q, ⟨n, DataW.trod_carry _ _ _ _ h1 fun x hx => hb.same (hlt x (by rw [e]; exact List.mem_append_left _ hx))⟩, trodAll_below hb (fun x hx => hlt x (by rw [e]; exact List.mem_append_right _ hx)) h2, e⟩
end
end Go.Proofs.YtiolpldihoghiaaDoor

namespace Go.Proofs.YtiolpldihoghiaaDoor
open Go.RowKit
set_option linter.unusedVariables false
set_option linter.unusedSimpArgs false
instance : Kept kExt := ⟨fun _ h => h⟩
instance : Kept kSpan := ⟨fun _ h => h⟩
instance : Kept kSec := ⟨fun _ h => h⟩
instance : Kept kBm := ⟨fun hs h => by obtain ⟨A, c, h1, h2, h3, h4, h5⟩ := h; exact ⟨A, c, h1, h2, h3, h4, h5.kept hs⟩⟩
instance : Kept kVol := inferInstanceAs (Kept (kSl 8 kSec))
instance : Kept kIm := inferInstanceAs (Kept (kSl 1 kVol))
instance : Kept kWr := ⟨fun hs h => by obtain ⟨A, c, h1, h2, h3, h4, h5, h6⟩ := h; exact ⟨A, c, h1, h2, h3, h4, h5, h6.kept hs⟩⟩
instance : Kept kPt := ⟨fun hs h => by
  obtain ⟨A1, c1, A2, c2, A3, c3, h1, h2, ⟨a1, a2, a3⟩, ⟨b1, b2, b3⟩, ⟨d1, d2, d3⟩⟩ := h
  exact ⟨A1, c1, A2, c2, A3, c3, h1, h2, ⟨a1, a2, a3.kept hs⟩, ⟨b1, b2, b3.kept hs⟩, ⟨d1, d2, d3.kept hs⟩⟩⟩
theorem opInt : Opens Tryd.prog 3 1 (kInt .i64) := opens_int (by kernel_rfl)
theorem opU64 : Opens Tryd.prog 151 1 (kInt .u64) := opens_int (by kernel_rfl)
theorem opU8 : Opens Tryd.prog 5 1 (kInt .u8) := opens_int (by kernel_rfl)
/-- One cell of a struct. -/
theorem op1 {α : Type} {t : TypeId} {rep : Rp α} (h : Opens Tryd.prog t 1 rep) {H : Type} {enc : TypeId × Value → H} {w : World} {n : Nat} {cs : List Value} {y : DataW H × List MemPlace} (h1 : DataW.trod enc Tryd.prog w 0 (fun _ => true) true n t cs = some y) (h2 : ∀ k ∈ y.1.weights Tryd.prog t, k ≤ reachBytes) : ∃ v, rep w v cs := (h H enc w n cs y h1 h2).2
def fieldOf (P : Program) (t i : Nat) : Option (TypeId × Nat × Nat) := match P.underlying t with
  | some (.struct fs) => fs[i]?.map fun f => (f.type, f.offset, P.cellsOf f.type)
  | _ => none
/-- Field i of a struct, which is read in sz cells from off on. -/
theorem opField {α : Type} {t ft : TypeId} {off sz : Nat} {rep : Rp α} (i : Nat) (hf : fieldOf Tryd.prog t i = some (ft, off, sz)) (h : Opens Tryd.prog ft sz rep) {H : Type} {enc : TypeId × Value → H} {w : World} {n : Nat} {cs : List Value} {x : DataW H × List MemPlace}
    (h1 : DataW.trod enc Tryd.prog w 0 (fun _ => true) true n t cs = some x) (h2 : ∀ k ∈ x.1.weights Tryd.prog t, k ≤ reachBytes) : ∃ v, rep w v ((cs.drop off).take sz) := by
  unfold fieldOf at hf
  split at hf
  · rename_i fs hu
    obtain ⟨f, hf1, hf2⟩ := Option.map_eq_some_iff.1 hf
    simp only [Prod.mk.injEq] at hf2
    obtain ⟨rfl, rfl, rfl⟩ := hf2
    obtain ⟨_, hall⟩ := open_fields hu h1 h2
    obtain ⟨y, m, h3, h4⟩ := hall i f hf1
    exact (h H enc w m _ y h3 h4).2
  · cases hf
theorem opLen {t sz : Nat} (hs : (match Tryd.prog.underlying t with | some (.struct _) => true | some (.array _ _) => true | _ => false) = true) (hc : Tryd.prog.cellsOf t = sz) {H : Type} {enc : TypeId × Value → H} {w : World} {n : Nat} {cs : List Value} {x : DataW H × List MemPlace}
    (h1 : DataW.trod enc Tryd.prog w 0 (fun _ => true) true n t cs = some x) (h2 : ∀ k ∈ x.1.weights Tryd.prog t, k ≤ reachBytes) : cs.length = sz := by
  split at hs
  · rename_i fs hu; rw [(open_fields hu h1 h2).1, hc]
  · rename_i k e hu; rw [(open_items hu h1 h2).1, hc]
  · cases hs
theorem opExt : Opens Tryd.prog 103 2 kExt := by
  intro H enc w fuel cs x h hw
  have hl := opLen (t := 103) (sz := 2) (by kernel_rfl) (by kernel_rfl) h hw
  obtain ⟨a, ha, ra⟩ := opField (off := 0) 0 (by kernel_rfl) opInt h hw
  obtain ⟨b, hb, rb⟩ := opField (off := 1) 1 (by kernel_rfl) opInt h hw
  obtain ⟨u, v, rfl⟩ := len2 hl
  simp at ha hb; subst ha; subst hb; exact ⟨rfl, ⟨a, b⟩, rfl, ra, rb⟩
theorem opSpan : Opens Tryd.prog 98 3 kSpan := by
  intro H enc w fuel cs x h hw
  have hl := opLen (t := 98) (sz := 3) (by kernel_rfl) (by kernel_rfl) h hw
  obtain ⟨a, ha, ra⟩ := opField (off := 0) 0 (by kernel_rfl) opInt h hw
  obtain ⟨b, hb, rb⟩ := opField (off := 1) 1 (by kernel_rfl) opInt h hw
  obtain ⟨c, hc, rc⟩ := opField (off := 2) 2 (by kernel_rfl) opInt h hw
  obtain ⟨u, v, q, rfl⟩ := len3 hl
  simp at ha hb hc; subst ha; subst hb; subst hc; exact ⟨rfl, ⟨a, b, c⟩, rfl, ra, rb, rc⟩
theorem opWords : Opens Tryd.prog 63 1 (kSl 1 (kInt .u64)) := opens_slice (by kernel_rfl) (by kernel_rfl) (by kernel_rfl) opU64
theorem opBm : Opens Tryd.prog 65 2 kBm := by
  intro H enc w fuel cs x h hw
  have hl := opLen (t := 65) (sz := 2) (by kernel_rfl) (by kernel_rfl) h hw
  obtain ⟨a, ha, ra⟩ := opField (off := 0) 0 (by kernel_rfl) opInt h hw
  obtain ⟨b, A, c, hb, b1, b2, b3⟩ := opField (off := 1) 1 (by kernel_rfl) opWords h hw
  obtain ⟨u, v, rfl⟩ := len2 hl
  simp at ha hb; subst ha; subst hb; exact ⟨rfl, ⟨a, b⟩, A, c, rfl, ra, b1, b2, b3⟩
theorem opSec : Opens Tryd.prog 71 8 kSec := by
  intro H enc w fuel cs x h hw
  have hl := opLen (t := 71) (sz := 8) (by kernel_rfl) (by kernel_rfl) h hw
  obtain ⟨_, hall⟩ := open_items (len := 8) (e := 5) (by kernel_rfl) h hw
  have hc : Tryd.prog.cellsOf 5 = 1 := by kernel_rfl
  have hex : ∀ i, i < 8 → ∃ n : Int, cs[i]? = some (.int .u8 n) ∧ rng .u8 n := fun i hi => by
    obtain ⟨y, m, h3, h4⟩ := hall i hi
    rw [hc] at h3
    obtain ⟨v, hv, rv⟩ := op1 opU8 h3 h4
    refine ⟨v, ?_, rv⟩
    have := congrArg (·[0]?) hv
    simpa using this
  obtain ⟨V, hV⟩ := Deep.choose_lt hex
  have hcs : cs = ((List.range 8).map V).map (Value.int .u8) := by
    apply List.ext_getElem?
    intro i
    rcases Nat.lt_or_ge i 8 with hi | hi
    · rw [(hV i hi).1]; simp [hi]
    · rw [List.getElem?_eq_none (by omega), List.getElem?_eq_none (by simpa using hi)]
  refine ⟨hl, (List.range 8).map V, hcs, by simp, fun z hz => ?_⟩
  obtain ⟨i, hi, rfl⟩ := List.mem_map.1 hz
  exact (hV i (List.mem_range.1 hi)).2
theorem opVol : Opens Tryd.prog 61 1 kVol := opens_slice (by kernel_rfl) (by kernel_rfl) (by kernel_rfl) opSec
theorem opWr : Opens Tryd.prog 100 3 kWr := by
  intro H enc w fuel cs x h hw
  have hl := opLen (t := 100) (sz := 3) (by kernel_rfl) (by kernel_rfl) h hw
  obtain ⟨a, ha, ra⟩ := opField (off := 0) 0 (by kernel_rfl) opInt h hw
  obtain ⟨b, hb, rb⟩ := opField (off := 1) 1 (by kernel_rfl) opInt h hw
  obtain ⟨d, A, c, hd, b1, b2, b3⟩ := opField (off := 2) 2 (by kernel_rfl) opVol h hw
  obtain ⟨u, v, q, rfl⟩ := len3 hl
  simp at ha hb hd; subst ha; subst hb; subst hd; exact ⟨rfl, ⟨a, b, d⟩, A, c, rfl, ra, rb, b1, b2, b3⟩
theorem opInts : Opens Tryd.prog 40 1 (kSl 1 (kInt .i64)) := opens_slice (by kernel_rfl) (by kernel_rfl) (by kernel_rfl) opInt
theorem opSpans : Opens Tryd.prog 22 1 (kSl 3 kSpan) := opens_slice (by kernel_rfl) (by kernel_rfl) (by kernel_rfl) opSpan
theorem opBms : Opens Tryd.prog 23 1 (kSl 2 kBm) := opens_slice (by kernel_rfl) (by kernel_rfl) (by kernel_rfl) opBm
theorem opIm : Opens Tryd.prog 25 1 kIm := opens_slice (by kernel_rfl) (by kernel_rfl) (by kernel_rfl) opVol
theorem opWrs : Opens Tryd.prog 43 1 (kSl 3 kWr) := opens_slice (by kernel_rfl) (by kernel_rfl) (by kernel_rfl) opWr
theorem opPt : Opens Tryd.prog 27 4 kPt := by
  intro H enc w fuel cs x h hw
  have hl := opLen (t := 27) (sz := 4) (by kernel_rfl) (by kernel_rfl) h hw
  obtain ⟨a, ha, ra⟩ := opField (off := 0) 0 (by kernel_rfl) opInt h hw
  obtain ⟨l1, A1, c1, e1, q1⟩ := opField (off := 1) 1 (by kernel_rfl) opSpans h hw
  obtain ⟨l2, A2, c2, e2, q2⟩ := opField (off := 2) 2 (by kernel_rfl) opBms h hw
  obtain ⟨l3, A3, c3, e3, q3⟩ := opField (off := 3) 3 (by kernel_rfl) opIm h hw
  obtain ⟨u, v, q, r, rfl⟩ := len4 hl
  simp at ha e1 e2 e3; subst ha; subst e1; subst e2; subst e3; exact ⟨rfl, ⟨a, l1, l2, l3⟩, A1, c1, A2, c2, A3, c3, rfl, ra, q1, q2, q3⟩
end Go.Proofs.YtiolpldihoghiaaDoor

namespace Go.Proofs.YtiolpldihoghiaaDoor
open Go.RowKit Go.ChangeShapes Go.WideShapes
set_option linter.unusedVariables false
set_option linter.unusedSimpArgs false
set_option maxRecDepth 100000
theorem own_knob : ownKnob Tryd.prog.godebug = none := by kernel_rfl
theorem kids_ : Kids Tryd.prog (· < Tryd.prog.types.size) := kids_rows (by kernel_rfl) (by kernel_rfl)
theorem full_ : ∀ t e, t < Tryd.prog.types.size → Tryd.prog.underlying t = some (.slice e) → 0 < Tryd.prog.cellsOf e := slices_full_of Tryd.prog (by kernel_rfl)
theorem gTab : Tryd.prog.globalNamed "math/bits.deBruijn64tab" = some 0 := by kernel_rfl
theorem tTab : (Tryd.prog.globals[0]?).map (·.type) = some 219 := by kernel_rfl
theorem uTab : Tryd.prog.underlying 219 = some (.array 64 5) := by kernel_rfl
theorem laidTab : (Rows.laid_math_bits_deBruijn64tab : DataW Unit) = .agg ((List.range 64).map fun j => .lit (.int .u8 ((Lib.deBruijn64tab.getD j 0 : Nat) : Int))) := by
  unfold Rows.laid_math_bits_deBruijn64tab; rfl
/-- What the condition on the variable gives. -/
theorem tab_of_laid {W : World} (h : laidMetH Tryd.prog [("math/bits.deBruijn64tab", Rows.laid_math_bits_deBruijn64tab)] W) : TabF W := by
  rw [MakeChecks.laidMetH_plain _ _ _ (by kernel_rfl)] at h
  obtain ⟨ps, ⟨g0, t0, cs0, f0, p0, q0, hg0, ht0, hv0, hd0, _⟩, _⟩ := h
  obtain rfl := Option.some.inj (gTab.symm.trans hg0)
  obtain rfl := Option.some.inj (tTab.symm.trans ht0)
  obtain ⟨xs, m, _, hx, _, hn, hel⟩ := DataW.trod_array uTab hd0
  rw [laidTab] at hx
  simp only [Prod.mk.injEq, DataW.agg.injEq] at hx
  intro j hj
  have h1 := hel j hj
  rw [show Tryd.prog.cellsOf 5 = 1 from by kernel_rfl, List.getElem?_eq_getElem (by omega)] at h1
  obtain ⟨n, h2, h3, _⟩ := DataW.trod_int (t := 5) (k := .u8) (by kernel_rfl) h1
  have h4 := congrArg (·[j]?) hx.1
  simp only [List.getElem?_map, List.getElem?_range hj, List.getElem?_eq_getElem (show j < xs.length by omega), Option.map_some, Option.some.injEq] at h4
  rw [h3] at h4
  simp only [DataW.lit.injEq, Lit.int.injEq, true_and] at h4
  rw [World.var?_cell gTab hv0 j]
  have h5 := congrArg (·[0]?) h2
  simp only [Nat.mul_one, List.getElem?_take, List.getElem?_drop, Nat.zero_lt_one, if_true, Nat.add_zero, Array.getElem?_toList, List.getElem?_cons_zero] at h5
  rw [h5, ← h4]
theorem TabF.stab {W : World} (h : TabF W) : Stab W (fun _ => False) TabF := fun w' _ hw j hj => cell_kept (fun b hb => hw b hb (fun h => h)) (h j hj)
section
variable {H : Type} {enc : TypeId × Value → H} {W : World} {base : Nat}
/-- An argument that is a struct. -/
theorem argAgg {α : Type} {t sz : Nat} {rep : Rp α} {v : Value} {d : DataW H} {p : List MemPlace} (hop : Opens Tryd.prog t sz rep) (hs : (match Tryd.prog.underlying t with | some (.struct _) => true | _ => false) = true) (hok : Value.okWide Tryd.prog W .any base t v)
    (ht : DataW.Trod enc Tryd.prog W 0 (fun _ => true) true t v d p) (hw : ∀ n ∈ d.weights Tryd.prog t, n ≤ reachBytes) : ∃ x cs, v = .agg (List.toArray cs) ∧ rep W x cs := by
  split at hs
  · rename_i fs hu
    obtain ⟨cs, rfl, _⟩ := okWide_struct hu hok
    obtain ⟨n, h⟩ := ht
    obtain ⟨_, x, hx⟩ := hop H enc W n _ _ h hw
    exact ⟨x, cs.toList, rfl, hx⟩
  · cases hs
/-- An argument that is a slice. -/
theorem argSl {α : Type} {t sz : Nat} {rep : Rp α} {v : Value} {d : DataW H} {p : List MemPlace} (hop : Opens Tryd.prog t 1 (kSl sz rep)) (hs : (match Tryd.prog.underlying t with | some (.slice _) => true | _ => false) = true) (hok : Value.okWide Tryd.prog W .any base t v)
    (ht : DataW.Trod enc Tryd.prog W 0 (fun _ => true) true t v d p) (hw : ∀ n ∈ d.weights Tryd.prog t, n ≤ reachBytes) : ∃ A xs c, v = .slice A (List.length xs) c ∧ xs.length ≤ c ∧ c ≤ 9223372036854775807 ∧ Row rep sz A xs W := by
  split at hs
  · rename_i e hu
    obtain ⟨n, h⟩ := ht
    obtain ⟨_, xs, A, c, hx, h1, h2, h3⟩ := hop H enc W n _ _ h hw
    refine ⟨A, xs, c, ?_, h1, h2, h3⟩
    simp only [Value.okWide, hu, Cell.okWide] at hok
    cases v <;> simp_all [Cell.ok, Value.cells]
  · cases hs
/-- An argument that is a number. -/
theorem argInt {t : Nat} {k : IntKind} {v : Value} {d : DataW H} {p : List MemPlace} (hu : Tryd.prog.underlying t = some (.int k)) (hok : Value.okWide Tryd.prog W .any base t v)
    (ht : DataW.Trod enc Tryd.prog W 0 (fun _ => true) true t v d p) : ∃ n, v = .int k n ∧ rng k n := by
  obtain ⟨m, h⟩ := ht
  obtain ⟨n, hc, hd, hw⟩ := DataW.trod_int hu h
  have hr := (opens_int hu H enc W m _ _ h (by rw [hd]; intro n hn; simp [DataW.weights] at hn)).2
  obtain ⟨n', h1, h2⟩ := hr
  refine ⟨n', ?_, h2⟩
  simp only [Value.okWide, hu, Cell.okWide] at hok
  cases v <;> simp_all [Cell.ok, Value.cells]
/-- The weight of one argument. -/
theorem weight_at {ts : List TypeId} {ds : List (DataW H)} (h : (DataW.weightsEach Tryd.prog ts ds).all (· ≤ reachBytes) = true) (j : Nat) {t : TypeId} {d : DataW H} (ht : ts[j]? = some t) (hd : ds[j]? = some d) : ∀ n ∈ d.weights Tryd.prog t, n ≤ reachBytes :=
  fun n hn => by simpa using List.all_eq_true.1 h n (DataW.weights_mem_each ht hd n hn)
end
end Go.Proofs.YtiolpldihoghiaaDoor
