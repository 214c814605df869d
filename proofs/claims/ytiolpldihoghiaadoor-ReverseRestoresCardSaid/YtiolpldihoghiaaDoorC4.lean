/- The engine, part 22: the walk's steps, made short; all reads. Over any program. The engine, part 23: rows of rows that are one's own; stores of whole structs and arrays into rows of one's own. Over any program. The data of the program: how each type's values lie in cells. The bits of a bitmap, and what makes it well-formed, in plain Lean. Words made from bits, in plain Lean. What the functions on bitmaps return, in plain Lean. The canonical list of a set of numbers, in plain Lean. The elements of a set of bits, one by one, in plain Lean. bitmap.words, bitmap.Check, the reference's bit and Check: the contracts. slices.Clone; the small functions of bitmap and of its reference: the contracts. bitmap.New, Set, Or and their reference: the contracts. bitmap.Set, bitmap.Or: the contracts. -/
import Derived.Test.YtiolpldihoghiaaDoorC3
import Derived.Laws.CopyRow
import Derived.Lib.TrailingZeros
namespace Go.Proofs.YtiolpldihoghiaaDoor
open Go.RowKit
set_option linter.unusedVariables false
set_option linter.unusedSimpArgs false

/-- The one step that a goal's form calls for. -/
class Stp (G : Prop) (G' : outParam Prop) : Prop where
  go : G' → G
theorem stp {G G' : Prop} [h : Stp G G'] (k : G') : G := h.go k
section
variable {P : Program} {N : Nat} {E : List (Nat × Value)} {ds : List Deferred} {ops : Array Oper} {rest : List Oper} {Q Q' : Exit → Act → World → Prop} {ro : Option Nat} {n : Nat}
variable {d d1 : Nat} {o : Op} {dst : Option Tmp} {ty ty1 : TypeId} {pos pos1 : String} {af af1 : Array Edge} {g : Option (Nat × Bool)} {w w' ws : World} {v v' q : Value} {x y z : Operand} {T T' u : TypeId} {a b : Int} {A : Act}
variable {w0 : World} {M : Nat → Prop} {L : List Loc} {O : List Own} {F : List (World → Prop)} {K : List (Nat × Value) → World → Prop}
variable {ks keep : List Nat} {kv : List Value} {J : Nat → List Value → World → Prop} {m i id : Nat} {c c1 c2 : Code} {l : List Oper}
instance : Stp (WL P ops Q [] N E ds w) (Q .normal (fr N E ds) w) := ⟨l_nil⟩
instance : Stp (Th P c Q .normal (fr N E ds) w) (WC P c Q N E ds w) := ⟨th_n⟩
instance : Stp (Th P c Q (.exit i) A w) (Q (.exit i) A w) := ⟨th_x⟩
instance : Stp (Th P c Q .ret A w) (Q .ret A w) := ⟨th_r⟩
instance : Stp (WC P (.seq c1 c2) Q N E ds w) (WC P c1 (Th P c2 Q) N E ds w) := ⟨c_seq⟩
instance : Stp (WC P (.region id l.toArray false) Q N E ds w) (WL P l.toArray Q l N E ds w) := ⟨c_region⟩
instance : Stp (WC P .ret Q N E ds w) (Q .ret (fr N E ds) w) := ⟨c_ret⟩
instance : Stp (WC P (.block i c) Q N E ds w) (WC P c (Bk i Q) N E ds w) := ⟨c_block⟩
instance : Stp (WC P .skip Q N E ds w) (Q .normal (fr N E ds) w) := ⟨c_skip⟩
instance : Stp (WC P (.exit i) Q N E ds w) (Q (.exit i) (fr N E ds) w) := ⟨c_exit⟩
instance : Stp (Lk ks keep kv J m N ds Q (.exit i) A w) (Q (.exit i) A w) := ⟨lk_x⟩
instance : Stp (Lk ks keep kv J m N ds Q .ret A w) (Q .ret A w) := ⟨lk_r⟩
instance : Stp (Bk i Q .ret A w) (Q .ret A w) := ⟨bk_r⟩
instance : Stp (Bk i Q .normal A w) (Q .normal A w) := ⟨bk_n⟩
instance : Stp (Bk i Q (.exit i) A w) (Q .normal A w) := ⟨bk_x⟩
instance : Stp (WI ro n P (.seq c1 c2) Q N E ds w) (WI ro n P c1 (Ti ro n P c2 Q) N E ds w) := ⟨i_seq⟩
instance : Stp (WI ro n P (.block i c) Q N E ds w) (WI ro n P c (Bk i Q) N E ds w) := ⟨i_block⟩
instance : Stp (WI ro n P .skip Q N E ds w) (Q .normal (fr N E ds) w) := ⟨i_skip⟩
instance : Stp (WI ro n P .ret Q N E ds w) (Q .ret (fr N E ds) w) := ⟨i_ret⟩
instance : Stp (WI ro n P (.exit i) Q N E ds w) (Q (.exit i) (fr N E ds) w) := ⟨i_exit⟩
instance : Stp (Ti ro n P c Q .normal (fr N E ds) w) (WI ro n P c Q N E ds w) := ⟨ti_n⟩
instance : Stp (Ti ro n P c Q (.exit i) A w) (Q (.exit i) A w) := ⟨ti_x⟩
instance : Stp (Ti ro n P c Q .ret A w) (Q .ret A w) := ⟨ti_r⟩

/-! ### New variables and stores, the places found -/
theorem z_box (H : Hp w0 M w L O F) {cs : List Value} (h : ∀ w' b, Below w.heap.size w w' → Hp w0 M w' (⟨b, cs, T⟩ :: L) O F → K ((d, lp b 0) :: E) w')
    (hs : (∀ w' b, Below w.heap.size w w' → Hp w0 M w' (⟨b, cs, T⟩ :: L) O F → K ((d, lp b 0) :: E) w') → St P ops Q ⟨some d, .box T x, ty, pos, af, none⟩ N E ds w K := by
      first | exact fun hh => s_boxa H ⟨rfl, rfl⟩ rfl hh | exact fun hh => s_boxi H ⟨rfl, rfl⟩ rfl hh | exact fun hh => s_boxs H ⟨rfl, rfl⟩ rfl hh) : St P ops Q ⟨some d, .box T x, ty, pos, af, none⟩ N E ds w K := hs h
theorem z_sto (H : Hp w0 M w L O F) {L' : List Loc} (h : ∀ w', Hp w0 M w' L' O F → K E w') (hs : (∀ w', Hp w0 M w' L' O F → K E w') → St P ops Q ⟨none, .store T x y, ty, pos, af, none⟩ N E ds w K := by
      first
      | exact fun hh => s_storea (i := 0) H ⟨rfl, rfl⟩ rfl ⟨rfl, rfl⟩ rfl rfl rfl hh | exact fun hh => s_storea (i := 1) H ⟨rfl, rfl⟩ rfl ⟨rfl, rfl⟩ rfl rfl rfl hh | exact fun hh => s_storea (i := 2) H ⟨rfl, rfl⟩ rfl ⟨rfl, rfl⟩ rfl rfl rfl hh
      | exact fun hh => s_store (i := 0) (v := .int _ _) H ⟨rfl, rfl⟩ rfl ⟨rfl, rfl⟩ rfl rfl hh | exact fun hh => s_store (i := 1) (v := .int _ _) H ⟨rfl, rfl⟩ rfl ⟨rfl, rfl⟩ rfl rfl hh | exact fun hh => s_store (i := 2) (v := .int _ _) H ⟨rfl, rfl⟩ rfl ⟨rfl, rfl⟩ rfl rfl hh
      | exact fun hh => s_store (i := 0) (v := .slice _ _ _) H ⟨rfl, rfl⟩ rfl ⟨rfl, rfl⟩ rfl rfl hh | exact fun hh => s_store (i := 1) (v := .slice _ _ _) H ⟨rfl, rfl⟩ rfl ⟨rfl, rfl⟩ rfl rfl hh | exact fun hh => s_store (i := 2) (v := .slice _ _ _) H ⟨rfl, rfl⟩ rfl ⟨rfl, rfl⟩ rfl rfl hh
      | exact fun hh => s_store (i := 3) (v := .slice _ _ _) H ⟨rfl, rfl⟩ rfl ⟨rfl, rfl⟩ rfl rfl hh | exact fun hh => s_store (i := 3) (v := .int _ _) H ⟨rfl, rfl⟩ rfl ⟨rfl, rfl⟩ rfl rfl hh
      | exact fun hh => s_store (i := 0) (v := .bool _) H ⟨rfl, rfl⟩ rfl ⟨rfl, rfl⟩ rfl rfl hh | exact fun hh => s_store (i := 1) (v := .bool _) H ⟨rfl, rfl⟩ rfl ⟨rfl, rfl⟩ rfl rfl hh) : St P ops Q ⟨none, .store T x y, ty, pos, af, none⟩ N E ds w K := hs h
/-! ### Reads: the pointer's kind first -/
theorem ld_lp {b j : Nat} (hp : Ev N E x (lp b j)) (h : Ev N E x (lp b j) → Rd P ⟨dst, .load T x, ty, pos, af, g⟩ N E w v) : Rd P ⟨dst, .load T x, ty, pos, af, g⟩ N E w v := h hp
theorem rd_go {o : Oper} (hr : Rd P o N E w v := by
  first
  | (apply g_load; first
    | (apply ld_lp ⟨rfl, rfl⟩; first
      | exact fun hp => rd_load_lp (i := 0) (by assumption) hp rfl rfl | exact fun hp => rd_load_lp (i := 1) (by assumption) hp rfl rfl | exact fun hp => rd_load_lp (i := 2) (by assumption) hp rfl rfl
      | exact fun hp => rd_load_lp (i := 3) (by assumption) hp rfl rfl | exact fun hp => rd_load_lp (i := 4) (by assumption) hp rfl rfl | exact fun hp => rd_load_lp (i := 5) (by assumption) hp rfl rfl
      | exact fun hp => rd_load_lp (i := 6) (by assumption) hp rfl rfl | exact fun hp => rd_load_lp (i := 7) (by assumption) hp rfl rfl
      | exact fun hp => rd_load_lp_ag (i := 0) (by assumption) hp rfl rfl | exact fun hp => rd_load_lp_ag (i := 1) (by assumption) hp rfl rfl | exact fun hp => rd_load_lp_ag (i := 2) (by assumption) hp rfl rfl
      | exact fun hp => rd_load_lp_ag (i := 3) (by assumption) hp rfl rfl | exact fun hp => rd_load_lp_ag (i := 4) (by assumption) hp rfl rfl | exact fun hp => rd_load_lp_ag (i := 5) (by assumption) hp rfl rfl)
    | exact rd_load_cel (by assumption) ⟨rfl, rfl⟩ mem_auto rfl | exact rd_load_cela (by assumption) ⟨rfl, rfl⟩ mem_auto rfl
    | exact rd_load_ep (by assumption) ⟨rfl, rfl⟩ mem_auto rfl (List.getElem?_eq_getElem (by omega))
    | exact rd_load_epd (by assumption) ⟨rfl, rfl⟩ mem_auto rfl (List.getElem?_eq_getElem (by omega))
    | exact rd_load_op (j := 0) (by assumption) ⟨rfl, rfl⟩ rfl (by omega) (own_int (by omega)) | exact rd_load_op (j := 1) (by assumption) ⟨rfl, rfl⟩ rfl (by omega) (own_int (by omega))
    | exact rd_load_op (j := 0) (by assumption) ⟨rfl, rfl⟩ rfl (by omega) (own_det (by intro _; rfl) (by omega) (by decide) (by rfl)) | exact rd_load_op (j := 1) (by assumption) ⟨rfl, rfl⟩ rfl (by omega) (own_det (by intro _; rfl) (by omega) (by decide) (by rfl)))
  | (apply g_bin; first
    | exact rd_lss ⟨rfl, rfl⟩ ⟨rfl, rfl⟩ | exact rd_add64 ⟨rfl, rfl⟩ ⟨rfl, rfl⟩ (by omega) | exact rd_neq ⟨rfl, rfl⟩ ⟨rfl, rfl⟩ | exact rd_eql ⟨rfl, rfl⟩ ⟨rfl, rfl⟩
    | exact rd_gtr ⟨rfl, rfl⟩ ⟨rfl, rfl⟩ | exact rd_geq ⟨rfl, rfl⟩ ⟨rfl, rfl⟩ | exact rd_leq ⟨rfl, rfl⟩ ⟨rfl, rfl⟩
    | exact rd_sub64 ⟨rfl, rfl⟩ ⟨rfl, rfl⟩ (by omega) | exact rd_quo64 ⟨rfl, rfl⟩ ⟨rfl, rfl⟩ (by omega) | exact rd_rem64 ⟨rfl, rfl⟩ ⟨rfl, rfl⟩ (by omega) | exact rd_mul64 ⟨rfl, rfl⟩ ⟨rfl, rfl⟩ (by omega)
    | exact rd_and64 ⟨rfl, rfl⟩ ⟨rfl, rfl⟩ u64_auto u64_auto | exact rd_or64 ⟨rfl, rfl⟩ ⟨rfl, rfl⟩ u64_auto u64_auto | exact rd_shr64 ⟨rfl, rfl⟩ ⟨rfl, rfl⟩ u64_auto0 (by omega) | exact rd_shl64 ⟨rfl, rfl⟩ ⟨rfl, rfl⟩ u64_auto0 (by omega)
    | exact rd_slnil ⟨rfl, rfl⟩ | exact rd_slnnil ⟨rfl, rfl⟩ | exact rd_ne2 ⟨rfl, rfl⟩ ⟨rfl, rfl⟩ | exact rd_eq2 ⟨rfl, rfl⟩ ⟨rfl, rfl⟩)
  | (apply g_fieldAddr; first
    | exact rd_field_lp ⟨rfl, rfl⟩
    | exact rd_field_row (by assumption) ⟨rfl, rfl⟩ mem_auto (by omega) | exact rd_field_ep (by assumption) ⟨rfl, rfl⟩
    | exact rd_field_op (j := 0) (by assumption) ⟨rfl, rfl⟩ rfl (by omega) | exact rd_field_op (j := 1) (by assumption) ⟨rfl, rfl⟩ rfl (by omega) | exact rd_field_cel (by assumption) ⟨rfl, rfl⟩ mem_auto)
  | (apply g_indexAddr; first
    | exact rd_index (by assumption) ⟨rfl, rfl⟩ mem_auto ⟨rfl, rfl⟩ (by first | rfl | exact (Int.toNat_of_nonneg (by omega)).symm) (by omega)
    | exact rd_index_own (j := 0) (v := .slice _ _ _) (by assumption) rfl ⟨rfl, rfl⟩ ⟨rfl, rfl⟩ (by first | rfl | exact (Int.toNat_of_nonneg (by omega)).symm) (by omega)
    | exact rd_index_own (j := 1) (v := .slice _ _ _) (by assumption) rfl ⟨rfl, rfl⟩ ⟨rfl, rfl⟩ (by first | rfl | exact (Int.toNat_of_nonneg (by omega)).symm) (by omega))
  | (apply g_move; first | exact rd_move (v := .int _ _) ⟨rfl, rfl⟩ | exact rd_move (v := .bool _) ⟨rfl, rfl⟩ | exact rd_move (v := .slice _ _ _) ⟨rfl, rfl⟩ | exact rd_move (v := .agg _) ⟨rfl, rfl⟩ | exact rd_move (v := .func _ _ _) ⟨rfl, rfl⟩ | exact rd_move ⟨rfl, rfl⟩)
  | (apply g_assign; first | exact rd_assign (v := .int _ _) ⟨rfl, rfl⟩ | exact rd_assign (v := .bool _) ⟨rfl, rfl⟩ | exact rd_assign (v := .slice _ _ _) ⟨rfl, rfl⟩ | exact rd_assign (v := .agg _) ⟨rfl, rfl⟩ | exact rd_assign (v := .func _ _ _) ⟨rfl, rfl⟩ | exact rd_assign ⟨rfl, rfl⟩)
  | (apply g_pick; first | exact rd_pick_t (v := .bool _) ⟨rfl, rfl⟩ ⟨rfl, rfl⟩ | exact rd_pick_f (v := .bool _) ⟨rfl, rfl⟩ ⟨rfl, rfl⟩)
  | (apply g_len; first | exact rd_len ⟨rfl, rfl⟩ | exact rd_len_own (j := 0) (by assumption) rfl ⟨rfl, rfl⟩ | exact rd_len_own (j := 1) (by assumption) rfl ⟨rfl, rfl⟩)
  | (apply g_not; exact rd_not ⟨rfl, rfl⟩)
  | (apply g_extract; first | exact rd_extract (v := .int _ _) ⟨rfl, rfl⟩ rfl | exact rd_extract (v := .bool _) ⟨rfl, rfl⟩ rfl | exact rd_extract (v := .slice _ _ _) ⟨rfl, rfl⟩ rfl | exact rd_extract ⟨rfl, rfl⟩ rfl)
  | (apply g_nil; exact rd_nilCheck ⟨rfl, rfl⟩)
  | (apply g_build; first | exact rd_build (cs := [_, _]) evp_auto (by rfl) (by rfl) | exact rd_build (cs := [_, _, _]) evp_auto (by rfl) (by rfl) | exact rd_build (cs := [_]) evp_auto (by rfl) (by rfl) | exact rd_build (cs := [_, _, _, _]) evp_auto (by rfl) (by rfl) | exact rd_build (cs := [_, _, _, _, _]) evp_auto (by rfl) (by rfl) | exact rd_build (cs := [_, _, _, _, _, _]) evp_auto (by rfl) (by rfl) | exact rd_build (cs := [_, _, _, _, _, _, _, _]) evp_auto (by rfl) (by rfl))
  | (apply g_conv; first | exact rd_conv64u ⟨rfl, rfl⟩ (by omega) | exact rd_conv64 ⟨rfl, rfl⟩ (by omega))
  | (apply g_mkf; exact rd_makeFunc evs_auto)
  | (apply g_min; exact rd_min ⟨rfl, rfl⟩ ⟨rfl, rfl⟩)
  | (apply g_max; exact rd_max ⟨rfl, rfl⟩ ⟨rfl, rfl⟩)) : Rd P o N E w v := hr

end
end Go.Proofs.YtiolpldihoghiaaDoor

namespace Go.Proofs.YtiolpldihoghiaaDoor
open Go.RowKit
set_option linter.unusedVariables false
set_option linter.unusedSimpArgs false
section
variable {P : Program} {N : Nat} {E : List (Nat × Value)} {ds : List Deferred} {ops : Array Oper} {rest : List Oper} {Q Q' : Exit → Act → World → Prop}
variable {d d1 : Nat} {o : Op} {dst : Option Tmp} {ty ty1 : TypeId} {pos pos1 : String} {af af1 : Array Edge} {g : Option (Nat × Bool)} {w w' ws : World} {v v' q : Value} {x y z : Operand} {T T' u : TypeId} {a b : Int}
variable {w0 : World} {M : Nat → Prop} {L : List Loc} {O : List Own} {F : List (World → Prop)} {K : List (Nat × Value) → World → Prop}

/-- The order of one's own rows does not matter. -/
theorem Hp.perm {O' : List Own} (H : Hp w0 M w L O F) (hp : O.Perm O') : Hp w0 M w L O' F := by
  have hmem : ∀ o, o ∈ O' ↔ o ∈ O := fun o => hp.mem_iff.symm
  refine ⟨H.below, H.loc, fun o ho => H.own o ((hmem o).1 ho), H.nd, (hp.pairwise_iff ?_).1 H.od, fun l hl o ho => H.lo l hl o ((hmem o).1 ho), fun f hf => (H.fact f hf).mono ?_⟩
  · rintro x y (h | h)
    · cases hc : y.v.ownBlock with
      | none => exact .inl rfl
      | some k => right; rw [h]; simp
    · exact .inr (Ne.symm h)
  · rintro b (h | h | ⟨o, ho, hb⟩)
    · exact .inl h
    · exact .inr (.inl h)
    · exact .inr (.inr ⟨o, (hmem o).1 ho, hb⟩)

/-! ### Several cells at once -/
def splice (cs : List Value) (i : Nat) (vs : List Value) : List Value := cs.take i ++ vs ++ cs.drop (i + vs.length)
theorem splice_len {cs vs : List Value} {i : Nat} (h : i + vs.length ≤ cs.length) : (splice cs i vs).length = cs.length := by
  simp only [splice, List.length_append, List.length_take, List.length_drop]; omega
theorem take_splice {cs vs : List Value} {i k : Nat} (h : i + vs.length ≤ k) (hk : k ≤ cs.length) : (splice cs i vs).take k = splice (cs.take k) i vs := by
  have hl : (cs.take i ++ vs).length = i + vs.length := by rw [List.length_append, List.length_take]; omega
  unfold splice
  rw [List.take_append, List.take_of_length_le (l := cs.take i ++ vs) (by omega), hl, List.take_take, List.drop_take, Nat.min_eq_left (by omega)]
theorem own_splice {gg e sz n cap i base : Nat} {cs vs : List Value} (hw : w.ownsRow base e sz (.slice (some ⟨gg, 0, none⟩) n cap) n cs) (hl : i + vs.length ≤ n * sz) (h1 : ∀ u ∈ vs, u.oneCell' = true) :
    ∃ w', (storeCells ⟨gg, i, none⟩ vs).run P w = .ok () w' ∧ w'.ownsRow base e sz (.slice (some ⟨gg, 0, none⟩) n cap) n (splice cs i vs) ∧ w.grownBy w' (some gg) := by
  rcases hw.2 with ⟨h', _⟩ | ⟨g', cap', cur, h', hb, hg, hnc, hcm, hcs, htake⟩
  · simp at h'
  · simp only [Value.slice.injEq, Option.some.injEq, Addr.mk.injEq, and_true, true_and] at h'
    obtain ⟨rfl, rfl⟩ := h'
    have hsz : n * sz ≤ cur.size := by rw [hcs]; exact Nat.mul_le_mul_right _ hnc
    have hst := run_storeCells_at P gg i e vs 0 cur w hg (by omega) h1
    rw [Nat.add_zero] at hst
    have he : cur.toList.take i ++ vs ++ cur.toList.drop (i + vs.length) = splice cur.toList i vs := rfl
    rw [he] at hst
    have hheap : (w.setRow gg (splice cur.toList i vs).toArray).heap[gg]? = some (.cells (splice cur.toList i vs).toArray e (0, 0)) := setRow_heap w gg cur _ e _ hg
    refine ⟨_, hst, ⟨?_, .inr ⟨gg, cap, _, rfl, hb, hheap, hnc, hcm, ?_, ?_⟩⟩, ⟨rfl, rfl, rfl, ?_, fun k _ hk => ?_⟩⟩
    · have hcl : cs.length = n * sz := hw.1
      rw [splice_len (by omega), hcl]
    · rw [← hcs]
      show (splice cur.toList i vs).toArray.size = cur.size
      simp only [List.size_toArray]
      rw [splice_len (by simp; omega)]; simp
    · show ((splice cur.toList i vs).toArray.toList).take (n * sz) = splice cs i vs
      rw [List.toList_toArray, take_splice hl (by simpa using hsz), htake]
    · rw [size_setRow]; exact Nat.le_refl _
    · simp only [World.setRow, Array.getElem?_modify]
      rw [if_neg (fun e => hk (by rw [e]))]
/-- A whole struct or array is stored into an element of a row of one's own. -/
theorem s_storea_op {j e sz n m : Nat} {cs vs : List Value} [hT : AgT P T sz] (H : Hp w0 M w L O F) (hp : Ev N E x (op v m sz 0)) (hO : O[j]? = some ⟨v, e, sz, n, cs⟩) (hm : m < n) (hy : Ev N E y (.agg vs.toArray)) (hs : vs.length = sz) (h1 : vs.all (·.oneCell') = true)
    (h : ∀ w', Hp w0 M w' L (O.set j ⟨v, e, sz, n, splice cs (m * sz) vs⟩) F → K E w') : St P ops Q ⟨none, .store T x y, ty, pos, af, none⟩ N E ds w K := by
  obtain ⟨gg, cap, rfl⟩ := own_form H hO hm
  have hown := H.own _ (List.mem_of_getElem? hO)
  obtain ⟨inf, hi1, hi2⟩ := hT.inf
  have hlen : m * sz + vs.length ≤ n * sz := by
    have : (m + 1) * sz ≤ n * sz := Nat.mul_le_mul_right _ hm
    rw [Nat.add_mul, Nat.one_mul] at this
    omega
  obtain ⟨w1, hst, h2, h3⟩ := own_splice (P := P) hown hlen (fun u hu => List.all_eq_true.1 h1 u hu)
  have hp' : Ev N E x (lp gg (m * sz)) := hp
  have hr : (execOp (fr N E ds).eval ⟨none, .store T x y, ty, pos, af, none⟩).run P w = .ok .skip w1 := by
    have hcz : (Value.agg vs.toArray).cells = vs.toArray := rfl
    simp [execOp, fr_eval hp', fr_eval hy, lp, Instr.storeAt, Instr.sureAddr, storeVar, hcz, run_sizeOf_ hi1, hi2, hs, hst]
  exact s_run rfl hr (.inl ⟨rfl, rfl, h _ (H.grow hO h3 h2 (.inl rfl))⟩)
theorem flat_splice {α : Type} {f : α → List Value} {sz : Nat} (hf : ∀ x, (f x).length = sz) : ∀ (xs : List α) (m : Nat) (hm : m < xs.length) (x' : α), splice (xs.flatMap f) (m * sz) (f x') = (xs.set m x').flatMap f
  | x :: xs, 0, _, x' => by
    simp only [splice, Nat.zero_mul, List.take_zero, List.nil_append, Nat.zero_add, List.set_cons_zero, List.flatMap_cons]
    rw [hf, List.drop_append, List.drop_of_length_le (by rw [hf]; omega), hf]; simp
  | x :: xs, m + 1, hm, x' => by
    have ih := flat_splice hf xs m (by simpa using hm) x'
    simp only [splice, List.set_cons_succ, List.flatMap_cons] at ih ⊢
    rw [← ih, Nat.add_mul, Nat.one_mul, List.take_append, List.drop_append, List.take_of_length_le (l := f x) (by rw [hf]; omega), List.drop_of_length_le (l := f x) (by rw [hf]; omega), hf x]
    simp only [List.nil_append, List.append_assoc]
    rw [show m * sz + sz - sz = m * sz from by omega, show m * sz + sz + (f x').length - sz = m * sz + (f x').length from by omega]
theorem t_storea_flat {α : Type} {f : α → List Value} {j e sz n m : Nat} {xs : List α} [hT : AgT P T sz] (x' : α) (H : Hp w0 M w L O F) (hO : O[j]? = some ⟨v, e, sz, n, xs.flatMap f⟩) (hp : Ev N E x (op v m sz 0)) (hy : Ev N E y (.agg (f x').toArray))
    (hf : ∀ x, (f x).length = sz) (hn : n = xs.length) (hm : m < n) (h1 : (f x').all (·.oneCell') = true)
    (h : ∀ w', Hp w0 M w' L (O.set j ⟨v, e, sz, n, (xs.set m x').flatMap f⟩) F → K E w') : St P ops Q ⟨none, .store T x y, ty, pos, af, none⟩ N E ds w K :=
  s_storea_op H hp hO hm hy (hf x') h1 fun w' H' => h w' (by rwa [flat_splice hf xs m (by omega) x'] at H')
/-- A whole struct or array is read out of a row of one's own. -/
theorem rd_load_opa {j e sz n m : Nat} {cs vs : List Value} [hT : AgT P T sz] (H : Hp w0 M w L O F) (hp : Ev N E x (op v m sz 0)) (hO : O[j]? = some ⟨v, e, sz, n, cs⟩) (hm : m < n) (hv : (cs.drop (m * sz)).take sz = vs) (hl : vs.length = sz) : Rd P ⟨dst, .load T x, ty, pos, af, g⟩ N E w (.agg vs.toArray) := by
  obtain ⟨gg, cap, rfl⟩ := own_form H hO hm
  refine rd_load_ag (a := ⟨gg, m * sz, none⟩) hp hl fun j' u hu => ?_
  rw [add_zero_]
  refine own_cell (m := m) (i := 0) H hO ?_
  rw [← hv, List.getElem?_take] at hu
  split at hu
  · rwa [List.getElem?_drop] at hu
  · cases hu
theorem Chunks.setN {α : Type} {dd : Rp α} {sz : Nat} {xs : List α} {cs cx : List Value} {m : Nat} {x1 : α} (h : Chunks dd sz xs cs w) (hx : dd w x1 cx) (hl : cx.length = sz) (hm : m < xs.length) : Chunks dd sz (xs.set m x1) (splice cs (m * sz) cx) w := by
  have hle : (m + 1) * sz ≤ xs.length * sz := Nat.mul_le_mul_right _ hm
  rw [Nat.add_mul, Nat.one_mul] at hle
  have hcl := h.len
  refine ⟨by rw [List.length_set, splice_len (by omega), h.len], fun j xj hj => ?_⟩
  rw [List.getElem?_set] at hj
  split at hj
  · rename_i e; subst e
    try rw [if_pos hm] at hj
    simp only [Option.some.injEq] at hj; subst hj
    have : ((splice cs (m * sz) cx).drop (m * sz)).take sz = cx := by
      unfold splice
      rw [List.append_assoc, List.drop_append, List.length_take, List.drop_of_length_le (by rw [List.length_take]; omega), List.nil_append, show m * sz - min (m * sz) cs.length = 0 from by omega, List.drop_zero, List.take_append, List.take_of_length_le (by omega), show sz - cx.length = 0 from by omega]
      simp
    rw [this]; exact hx
  · rename_i e
    have h1 := h.at_ j xj hj
    have hj' := (List.getElem?_eq_some_iff.1 hj).1
    have : ((splice cs (m * sz) cx).drop (j * sz)).take sz = (cs.drop (j * sz)).take sz := by
      apply List.ext_getElem?
      intro i
      rw [List.getElem?_take, List.getElem?_take]
      split
      · rename_i hi
        rw [List.getElem?_drop, List.getElem?_drop]
        unfold splice
        rcases Nat.lt_or_gt_of_ne e with hlt | hgt
        · have : (m + 1) * sz ≤ j * sz := Nat.mul_le_mul_right _ hlt
          rw [Nat.add_mul, Nat.one_mul] at this
          rw [List.getElem?_append_right (by simp only [List.length_append, List.length_take]; omega), List.getElem?_drop]
          congr 1
          simp only [List.length_append, List.length_take]; omega
        · have : (j + 1) * sz ≤ m * sz := Nat.mul_le_mul_right _ hgt
          rw [Nat.add_mul, Nat.one_mul] at this
          rw [List.append_assoc, List.getElem?_append_left (by rw [List.length_take]; omega), List.getElem?_take, if_pos (by omega)]
      · rfl
    rw [this]; exact h1

/-! ### A row of rows, all of them one's own -/
/-- The inner rows. -/
def inn {α : Type} (f : α → List Value) (e sz : Nat) (cs : List Value) (im : List (List α)) : List Own := List.zipWith (fun v (l : List α) => ⟨v, e, sz, l.length, l.flatMap f⟩) cs im
theorem inn_get {α : Type} {f : α → List Value} {e sz : Nat} {cs : List Value} {im : List (List α)} {i : Nat} {q : Value} {l : List α} (h1 : cs[i]? = some q) (h2 : im[i]? = some l) : (inn f e sz cs im)[i]? = some ⟨q, e, sz, l.length, l.flatMap f⟩ := by
  unfold inn; rw [List.getElem?_zipWith, h1, h2]
theorem inn_snoc {α : Type} {f : α → List Value} {e sz : Nat} {cs : List Value} {im : List (List α)} {q : Value} {l : List α} (h : cs.length = im.length) : inn f e sz (cs ++ [q]) (im ++ [l]) = inn f e sz cs im ++ [⟨q, e, sz, l.length, l.flatMap f⟩] := by
  unfold inn; rw [List.zipWith_append h]; rfl
theorem inn_set {α : Type} {f : α → List Value} {e sz : Nat} : ∀ {cs : List Value} {im : List (List α)} {i : Nat} {q : Value} {l : List α}, cs[i]? = some q → (inn f e sz cs im).set i ⟨q, e, sz, l.length, l.flatMap f⟩ = inn f e sz cs (im.set i l)
  | [], im, i, q, l, h => by simp at h
  | c :: cs, [], i, q, l, h => by simp [inn]
  | c :: cs, m :: im, 0, q, l, h => by simp at h; subst h; simp [inn]
  | c :: cs, m :: im, i + 1, q, l, h => by
    have ih := inn_set (f := f) (e := e) (sz := sz) (im := im) (l := l) (cs := cs) (i := i) (q := q) (by simpa using h)
    unfold inn at ih ⊢
    simp only [List.zipWith_cons_cons, List.set_cons_succ, ih]
/-- A new row of rows is handed back, and all is the caller's own. eo: the outer row's elements; e: the inner rows'. -/
def FreshG {α : Type} (f : α → List Value) (eo e sz : Nat) (w : World) (im : List (List α)) (v : Value) (w' : World) : Prop :=
  ∃ cs, cs.length = im.length ∧ (∀ o ∈ (⟨v, eo, 1, im.length, cs⟩ :: inn f e sz cs im : List Own), w'.ownsRow w.heap.size o.e o.sz o.v o.n o.cs) ∧ (⟨v, eo, 1, im.length, cs⟩ :: inn f e sz cs im : List Own).Pairwise fun o o' => o.v.ownBlock = none ∨ o.v.ownBlock ≠ o'.v.ownBlock
theorem Hp.freshG {α : Type} {f : α → List Value} {eo e sz n : Nat} {im : List (List α)} {cs : List Value} {O1 : List Own} (H : Hp w0 M w L O F) (hO : O = ⟨v, eo, 1, n, cs⟩ :: (inn f e sz cs im ++ O1)) (hn : n = im.length) (hc : cs.length = im.length) : FreshG f eo e sz w0 im v w := by
  subst hn; subst hO
  refine ⟨cs, hc, fun o ho => H.own o ?_, H.od.sublist ?_⟩
  · rcases List.mem_cons.1 ho with rfl | ho
    · exact List.mem_cons_self ..
    · exact List.mem_cons_of_mem _ (List.mem_append_left _ ho)
  · exact .cons_cons _ (List.sublist_append_left _ _)
theorem freshG_nil {α : Type} {f : α → List Value} {eo e sz : Nat} : FreshG f eo e sz w0 ([] : List (List α)) (.slice none 0 0) w := by
  refine ⟨[], rfl, fun o ho => ?_, ?_⟩
  · simp only [inn, List.zipWith_nil_left, List.mem_cons, List.not_mem_nil, or_false] at ho
    subst ho; exact World.ownsRow_nil _ _ _ _
  · simp [inn]
theorem Hp.own_news : ∀ {O' : List Own} (H : Hp w0 M w L O F) (hb : Below w.heap.size w w') (ho : ∀ o ∈ O', w'.ownsRow w.heap.size o.e o.sz o.v o.n o.cs) (hp : O'.Pairwise fun o o' => o.v.ownBlock = none ∨ o.v.ownBlock ≠ o'.v.ownBlock), Hp w0 M w' L (O' ++ O) F := by
  intro O' H hb ho hp
  have H' := H.ext hb
  have hge : ∀ o ∈ O', ∀ b, o.v.ownBlock = some b → w.heap.size ≤ b := fun o h b hb => ((ho o h).lt b hb).1
  refine ⟨H'.below, H'.loc, ?_, H'.nd, List.pairwise_append.2 ⟨hp, H'.od, fun o1 h1 o2 h2 => ?_⟩, ?_, ?_⟩
  · intro o h
    rcases List.mem_append.1 h with h | h
    · obtain ⟨q1, q2⟩ := ho o h
      refine ⟨q1, ?_⟩
      rcases q2 with q2 | ⟨gg, cap, cur, hv, hg, r⟩
      · exact .inl q2
      · exact .inr ⟨gg, cap, cur, hv, Nat.le_trans H.size hg, r⟩
    · exact H'.own o h
  · cases hc : o1.v.ownBlock with
    | none => exact .inl rfl
    | some b =>
      right; intro e2
      have := ((H.own o2 h2).lt b e2.symm).2
      have := hge o1 h1 b hc
      omega
  · intro l hl o h
    rcases List.mem_append.1 h with h | h
    · intro e2
      have := hge o h _ e2
      have := H.lt hl
      omega
    · exact H'.lo l hl o h
  · intro ff hf
    refine (H.fact ff hf).step hb.size (fun b hb' _ => hb.block b hb') ?_
    rintro b (h | h | ⟨o, ho', hb'⟩)
    · exact .inl (.inl h)
    · exact .inl (.inr (.inl h))
    · rcases List.mem_append.1 ho' with ho' | ho'
      · exact .inr (hge o ho' b hb')
      · exact .inl (.inr (.inr ⟨o, ho', hb'⟩))
theorem Hp.takeG {α : Type} {f : α → List Value} {eo e sz : Nat} {im : List (List α)} (H : Hp w0 M w L O F) (hb : Below w.heap.size w w') (hf : FreshG f eo e sz w im v w') :
    ∃ A c cs, v = .slice A im.length c ∧ cs.length = im.length ∧ Hp w0 M w' L (⟨.slice A im.length c, eo, 1, im.length, cs⟩ :: (inn f e sz cs im ++ O)) F := by
  obtain ⟨cs, hc, ho, hp⟩ := hf
  have H' := H.own_news hb ho hp
  obtain ⟨A, c, rfl, _, _⟩ := own_sl (j := 0) H' rfl
  exact ⟨A, c, cs, rfl, hc, H'⟩
/-- All of it is written no more. -/
theorem Hp.sealG {α : Type} {dd : Rp α} {f : α → List Value} {eo e sz n : Nat} {im : List (List α)} {cs : List Value} {A : Option Addr} {c : Nat} (H : Hp w0 M w L (⟨.slice A n c, eo, 1, n, cs⟩ :: (inn f e sz cs im ++ O)) F) (hM : ∀ b, M b → b < w0.heap.size) (hsz : 0 < sz) (hn : n = im.length) (hc : cs.length = im.length)
    (hf : ∀ x, (f x).length = sz) (hx : ∀ w', ∀ l ∈ im, ∀ x ∈ l, dd w' x (f x)) (hbd : im.length ≤ 140737488355328 ∧ ∀ l ∈ im, l.length ≤ 140737488355328) :
    n ≤ c ∧ c ≤ 9223372036854775807 ∧ Hp w0 M w L O (Row (kSl sz dd) 1 A im :: F) := by
  obtain ⟨hp1, hp2⟩ := List.pairwise_cons.1 H.od
  obtain ⟨hp3, hp4, hp5⟩ := List.pairwise_append.1 hp2
  -- without the inner rows
  have hmono : ∀ b, Mu M L (⟨.slice A n c, eo, 1, n, cs⟩ :: O) b → Mu M L (⟨.slice A n c, eo, 1, n, cs⟩ :: (inn f e sz cs im ++ O)) b := by
    rintro b (h | h | ⟨o, h, h2⟩)
    · exact .inl h
    · exact .inr (.inl h)
    · refine .inr (.inr ⟨o, ?_, h2⟩)
      rcases List.mem_cons.1 h with rfl | h
      · exact List.mem_cons_self ..
      · exact List.mem_cons_of_mem _ (List.mem_append_right _ h)
  have hin : ∀ o ∈ inn f e sz cs im, ∀ b, o.v.ownBlock = some b → ¬ Mu M L (⟨.slice A n c, eo, 1, n, cs⟩ :: O) b := by
    intro o ho b hb hm
    have ho' : o ∈ (⟨.slice A n c, eo, 1, n, cs⟩ :: (inn f e sz cs im ++ O) : List Own) := List.mem_cons_of_mem _ (List.mem_append_left _ ho)
    rcases hm with h | ⟨l, hl, rfl⟩ | ⟨o2, h, h2⟩
    · have h1 := ((H.own _ ho').lt b hb).1
      have h2 := hM b h
      omega
    · exact H.lo l hl _ ho' hb
    · rcases List.mem_cons.1 h with rfl | h
      · rcases hp1 o (List.mem_append_left _ ho) with h3 | h3
        · rw [h3] at h2; cases h2
        · exact h3 (h2.trans hb.symm)
      · rcases hp5 o ho o2 h with h3 | h3
        · rw [h3] at hb; cases hb
        · exact h3 (hb.trans h2.symm)
  have H1 : Hp w0 M w L (⟨.slice A n c, eo, 1, n, cs⟩ :: O) F := H.weak (List.Sublist.refl _) (.cons_cons _ (List.sublist_append_right _ _)) (fun f hf => hf)
  have hch : Stab w (Mu M L (⟨.slice A n c, eo, 1, n, cs⟩ :: O)) (Chunks (kSl sz dd) 1 im cs) := by
    intro w' hs hw
    refine ⟨by omega, fun i l hl => ?_⟩
    obtain ⟨hi, rfl⟩ := List.getElem?_eq_some_iff.1 hl
    have hic : i < cs.length := by omega
    have hg := inn_get (f := f) (e := e) (sz := sz) (List.getElem?_eq_getElem hic) (List.getElem?_eq_getElem hi)
    have hmem := List.mem_of_getElem? hg
    have hmem' : (⟨cs[i], e, sz, im[i].length, im[i].flatMap f⟩ : Own) ∈ (⟨.slice A n c, eo, 1, n, cs⟩ :: (inn f e sz cs im ++ O) : List Own) := List.mem_cons_of_mem _ (List.mem_append_left _ hmem)
    have hlm : im[i] ∈ im := List.getElem_mem hi
    obtain ⟨A', c', h1, h2, h3, h4⟩ := own_row (M := fun b => Mu M L (⟨.slice A n c, eo, 1, n, cs⟩ :: O) b ∨ cs[i].ownBlock = some b) (d := dd) (xs := im[i]) (H.own _ hmem') (fun w'' _ _ => flat_chunks hf (hx w'' _ hlm)) hsz (fun b hb => .inr hb) rfl (hbd.2 _ hlm) (M1 := Mu M L (⟨.slice A n c, eo, 1, n, cs⟩ :: O)) (fun b hb => .inl hb) (hin _ hmem)
    have hx1 : (cs.drop (i * 1)).take 1 = [cs[i]] := by rw [Nat.mul_one, List.drop_eq_getElem_cons hic]; rfl
    rw [hx1]
    simp only at h1
    exact ⟨A', c', by rw [h1], h2, h3, h4 w' hs hw⟩
  subst hn
  have h5 := (H1.add hch).sealR (dd := kSl sz dd) (xs := im) (List.mem_cons_self ..) hM Nat.zero_lt_one rfl hbd.1
  exact ⟨h5.1, h5.2.1, h5.2.2.weak (List.Sublist.refl _) (List.Sublist.refl _) (fun f hf => by
    rcases List.mem_cons.1 hf with rfl | hf
    · exact List.mem_cons_self ..
    · exact List.mem_cons_of_mem _ (List.mem_cons_of_mem _ hf))⟩
end
end Go.Proofs.YtiolpldihoghiaaDoor

namespace Go.Proofs.YtiolpldihoghiaaDoor
open Go.RowKit
set_option linter.unusedVariables false

structure Bm where
  size : Int
  words : List Int
structure Ext where
  start : Int
  count : Int
  deriving DecidableEq
structure Span where
  epoch : Int
  from_ : Int
  to : Int
  deriving DecidableEq
abbrev Sec := List Int
structure Wr where
  vol : Int
  start : Int
  data : List Sec
structure Pt where
  site : Int
  lin : List Span
  dirty : List Bm
  im : List (List Sec)
structure Cyc where
  base : Int
  number : Int
  time : Int
  pos : List Int
  writes : List Wr

def kBm : Rp Bm := fun w b cs => ∃ A c, cs = [.int .i64 b.size, .slice A b.words.length c] ∧ rng .i64 b.size ∧ b.words.length ≤ c ∧ c ≤ 9223372036854775807 ∧ Row (kInt .u64) 1 A b.words w
def kExt : Rp Ext := fun _ x cs => cs = [.int .i64 x.start, .int .i64 x.count] ∧ rng .i64 x.start ∧ rng .i64 x.count
def kSpan : Rp Span := fun _ x cs => cs = [.int .i64 x.epoch, .int .i64 x.from_, .int .i64 x.to] ∧ rng .i64 x.epoch ∧ rng .i64 x.from_ ∧ rng .i64 x.to
def kSec : Rp Sec := fun _ s cs => cs = s.map (Value.int .u8) ∧ s.length = 8 ∧ ∀ x ∈ s, rng .u8 x
def kVol : Rp (List Sec) := kSl 8 kSec
def kIm : Rp (List (List Sec)) := kSl 1 kVol
def kWr : Rp Wr := fun w x cs => ∃ A c, cs = [.int .i64 x.vol, .int .i64 x.start, .slice A x.data.length c] ∧ rng .i64 x.vol ∧ rng .i64 x.start ∧ x.data.length ≤ c ∧ c ≤ 9223372036854775807 ∧ Row kSec 8 A x.data w
def kPt : Rp Pt := fun w x cs => ∃ A1 c1 A2 c2 A3 c3, cs = [.int .i64 x.site, .slice A1 x.lin.length c1, .slice A2 x.dirty.length c2, .slice A3 x.im.length c3] ∧ rng .i64 x.site ∧
  (x.lin.length ≤ c1 ∧ c1 ≤ 9223372036854775807 ∧ Row kSpan 3 A1 x.lin w) ∧ (x.dirty.length ≤ c2 ∧ c2 ≤ 9223372036854775807 ∧ Row kBm 2 A2 x.dirty w) ∧ (x.im.length ≤ c3 ∧ c3 ≤ 9223372036854775807 ∧ Row kVol 1 A3 x.im w)
def kCyc : Rp Cyc := fun w x cs => ∃ A1 c1 A2 c2, cs = [.int .i64 x.base, .int .i64 x.number, .int .i64 x.time, .slice A1 x.pos.length c1, .slice A2 x.writes.length c2] ∧ (rng .i64 x.base ∧ rng .i64 x.number ∧ rng .i64 x.time) ∧
  (x.pos.length ≤ c1 ∧ c1 ≤ 9223372036854775807 ∧ Row (kInt .i64) 1 A1 x.pos w) ∧ (x.writes.length ≤ c2 ∧ c2 ≤ 9223372036854775807 ∧ Row kWr 3 A2 x.writes w)

/-! ### The parts of elements -/
instance : Comp kBm 0 (fun b => .int .i64 b.size) := ⟨fun h => by obtain ⟨A, c, rfl, _⟩ := h; rfl⟩
instance : CompS kBm 1 Bm.words 1 (kInt .u64) := ⟨fun h => by obtain ⟨A, c, rfl, _, h1, h2, h3⟩ := h; exact ⟨A, c, rfl, h1, h2, h3⟩⟩
instance : Comp kExt 0 (fun b => .int .i64 b.start) := ⟨fun h => by rw [h.1]; rfl⟩
instance : Comp kExt 1 (fun b => .int .i64 b.count) := ⟨fun h => by rw [h.1]; rfl⟩
instance : Comp kSpan 0 (fun b => .int .i64 b.epoch) := ⟨fun h => by rw [h.1]; rfl⟩
instance : Comp kSpan 1 (fun b => .int .i64 b.from_) := ⟨fun h => by rw [h.1]; rfl⟩
instance : Comp kSpan 2 (fun b => .int .i64 b.to) := ⟨fun h => by rw [h.1]; rfl⟩
instance : CompS kVol 0 id 8 kSec := ⟨fun h => by obtain ⟨A, c, rfl, h⟩ := h; exact ⟨A, c, rfl, h⟩⟩
instance : CompS kIm 0 id 1 kVol := ⟨fun h => by obtain ⟨A, c, rfl, h⟩ := h; exact ⟨A, c, rfl, h⟩⟩
instance : Comp kWr 0 (fun b => .int .i64 b.vol) := ⟨fun h => by obtain ⟨A, c, rfl, _⟩ := h; rfl⟩
instance : Comp kWr 1 (fun b => .int .i64 b.start) := ⟨fun h => by obtain ⟨A, c, rfl, _⟩ := h; rfl⟩
instance : CompS kWr 2 Wr.data 8 kSec := ⟨fun h => by obtain ⟨A, c, rfl, _, _, h1, h2, h3⟩ := h; exact ⟨A, c, rfl, h1, h2, h3⟩⟩

instance : OneC kBm := ⟨fun h u hu => by obtain ⟨A, c, rfl, _⟩ := h; simp at hu; rcases hu with rfl | rfl <;> rfl⟩
instance : OneC kExt := ⟨fun h u hu => by rw [h.1] at hu; simp at hu; rcases hu with rfl | rfl <;> rfl⟩
instance : OneC kSpan := ⟨fun h u hu => by rw [h.1] at hu; simp at hu; rcases hu with rfl | rfl | rfl <;> rfl⟩
instance : OneC kSec := ⟨fun h u hu => by rw [h.1] at hu; simp at hu; obtain ⟨a, _, rfl⟩ := hu; rfl⟩
instance : OneC kVol := inferInstanceAs (OneC (kSl 8 kSec))
instance : OneC kIm := inferInstanceAs (OneC (kSl 1 kVol))
instance : OneC kWr := ⟨fun h u hu => by obtain ⟨A, c, rfl, _⟩ := h; simp at hu; rcases hu with rfl | rfl | rfl <;> rfl⟩

instance : Det kExt (fun x => [.int .i64 x.start, .int .i64 x.count]) := ⟨fun h => h.1⟩
instance : Det kSpan (fun x => [.int .i64 x.epoch, .int .i64 x.from_, .int .i64 x.to]) := ⟨fun h => h.1⟩
instance : Det kSec (fun x => x.map (Value.int .u8)) := ⟨fun h => h.1⟩

/-! ### Numbers are within their kinds -/
section
variable {w : World} {M : Nat → Prop} {A : Option Addr}
theorem rng_row {k : IntKind} {xs : List Int} (h : Stab w M (Row (kInt k) 1 A xs)) : ∀ x ∈ xs, rng k x := by
  intro x hx
  obtain ⟨i, hi⟩ := List.mem_iff_getElem?.1 hx
  obtain ⟨a, cs, _, _, hd, _⟩ := h.elem (by decide) hi
  exact hd.now.2
theorem mem_row {α : Type} {d : Rp α} {sz : Nat} {xs : List α} (h : Stab w M (Row d sz A xs)) (hs : 0 < sz) {x : α} (hx : x ∈ xs) : ∃ cs, Stab w M (fun w' => d w' x cs) := by
  obtain ⟨i, hi⟩ := List.mem_iff_getElem?.1 hx
  obtain ⟨a, cs, _, _, hd, _⟩ := h.elem hs hi
  exact ⟨cs, hd⟩
end
end Go.Proofs.YtiolpldihoghiaaDoor

namespace Go.Proofs.YtiolpldihoghiaaDoor
open Go.RowKit
set_option linter.unusedVariables false

def bitOf (ws : List Int) (i : Nat) : Bool := ((ws[i / 64]?).getD 0).toNat.testBit (i % 64)
/-- No bit from n on is set. -/
def noneFrom (ws : List Int) (n : Nat) : Prop := ∀ i, n ≤ i → i < 64 * ws.length → bitOf ws i = false
def Bm.fine (b : Bm) : Prop := 0 ≤ b.size ∧ b.size ≤ 4096 ∧ (b.words.length : Int) = (b.size + 63) / 64 ∧ noneFrom b.words b.size.toNat
instance (ws : List Int) (n : Nat) : Decidable (noneFrom ws n) := decidable_of_iff (∀ i, i < 64 * ws.length → n ≤ i → bitOf ws i = false) ⟨fun h i h1 h2 => h i h2 h1, fun h i h1 h2 => h i h2 h1⟩
instance (b : Bm) : Decidable b.fine := inferInstanceAs (Decidable (_ ∧ _ ∧ _ ∧ _))
def Bm.err (b : Bm) : Int := if b.fine then 0 else 3
theorem Bm.err_pos {b : Bm} (h : b.fine) : b.err = 0 := by unfold Bm.err; rw [if_pos h]
theorem Bm.err_neg {b : Bm} (h : ¬ b.fine) : b.err = 3 := by unfold Bm.err; rw [if_neg h]
theorem Bm.err_zero {b : Bm} (h : b.err = 0) : b.fine := by
  apply Classical.byContradiction; intro hn; rw [Bm.err_neg hn] at h; cases h
theorem shr_zero_iff {x k : Nat} (hx : x < 2 ^ 64) : x >>> k = 0 ↔ ∀ j, k ≤ j → j < 64 → x.testBit j = false := by
  constructor
  · intro h j hj _
    have : (x >>> k).testBit (j - k) = false := by rw [h]; exact Nat.zero_testBit _
    rw [Nat.testBit_shiftRight] at this
    rwa [show k + (j - k) = j from by omega] at this
  · intro h
    apply Nat.eq_of_testBit_eq
    intro j
    rw [Nat.testBit_shiftRight, Nat.zero_testBit]
    by_cases hj : k + j < 64
    · exact h _ (by omega) hj
    · exact Nat.testBit_lt_two_pow (Nat.lt_of_lt_of_le hx (Nat.pow_le_pow_right (by decide) (by omega)))
/-- The program's way of seeing it: only the last word can offend. -/
theorem fine_last {ws : List Int} {n : Nat} (hl : ws.length = (n + 63) / 64) (hw : ∀ x ∈ ws, rng .u64 x) (h0 : 0 < n % 64) {x : Int} (hx : ws[ws.length - 1]? = some x) : noneFrom ws n ↔ x.toNat >>> (n % 64) = 0 := by
  have hx' := hw x (List.mem_of_getElem? hx)
  simp only [rng] at hx'
  have hlt : x.toNat < 2 ^ 64 := by omega
  rw [shr_zero_iff hlt]
  unfold noneFrom bitOf
  constructor
  · intro h j h1 h2
    have := h (64 * (ws.length - 1) + j) (by omega) (by omega)
    rwa [show (64 * (ws.length - 1) + j) / 64 = ws.length - 1 from by omega, show (64 * (ws.length - 1) + j) % 64 = j from by omega, hx] at this
  · intro h i h1 h2
    rw [show i / 64 = ws.length - 1 from by omega, hx]
    exact h _ (by omega) (Nat.mod_lt _ (by decide))
theorem fine_whole {ws : List Int} {n : Nat} (hl : ws.length = (n + 63) / 64) (h0 : n % 64 = 0) : noneFrom ws n := by
  intro i h1 h2; omega
theorem bitOf_at {ws : List Int} {i : Nat} {x : Int} (h : ws[i / 64]? = some x) : bitOf ws i = x.toNat.testBit (i % 64) := by unfold bitOf; rw [h]; rfl
theorem bit_shr (x k : Nat) : x >>> k &&& 1 = 1 ↔ x.testBit k = true := by
  rw [Nat.and_one_is_mod, Nat.testBit_eq_decide_div_mod_eq, Nat.shiftRight_eq_div_pow]; simp
theorem Bm.last_err {b : Bm} (h0 : 0 ≤ b.size) (h1 : b.size ≤ 4096) (hl : (b.words.length : Int) = (b.size + 63) / 64) (hw : ∀ x ∈ b.words, rng .u64 x) (h2 : b.size % 64 > 0) {i : Nat} (hi : i < b.words.length) (he : (i : Int) = b.words.length - 1) :
    (((b.words[i]).toNat >>> (b.size % 64).toNat : Nat) : Int) = 0 ↔ b.err = 0 := by
  have e : (b.size % 64).toNat = b.size.toNat % 64 := by omega
  have := fine_last (ws := b.words) (n := b.size.toNat) (by omega) hw (by omega) (x := b.words[i]) (by rw [show b.words.length - 1 = i from by omega]; simp)
  rw [e]
  constructor
  · intro h; exact Bm.err_pos ⟨h0, h1, hl, this.2 (by omega)⟩
  · intro h; have := this.1 (Bm.err_zero h).2.2.2; omega
theorem Bm.err_cases (b : Bm) : b.err = 0 ∨ b.err = 3 := by
  rcases Classical.em b.fine with h | h
  · exact .inl (Bm.err_pos h)
  · exact .inr (Bm.err_neg h)
theorem and1_iff (x k : Nat) : ((((x >>> k : Nat) : Int).toNat &&& (1 : Int).toNat : Nat) : Int) = 1 ↔ x.testBit k = true := by
  rw [← bit_shr]
  exact ⟨fun h => Int.ofNat.inj h, fun h => congrArg Int.ofNat h⟩
attribute [irreducible] bitOf
end Go.Proofs.YtiolpldihoghiaaDoor

namespace Go.Proofs.YtiolpldihoghiaaDoor
open Go.RowKit
set_option linter.unusedVariables false

/-- The number whose lowest n bits are f's. -/
def nb (f : Nat → Bool) : Nat → Nat
  | 0 => 0
  | n + 1 => if f n then 2 ^ n + nb f n else nb f n
theorem nb_lt (f : Nat → Bool) : ∀ n, nb f n < 2 ^ n
  | 0 => by simp [nb]
  | n + 1 => by
    have := nb_lt f n
    have e : 2 ^ (n + 1) = 2 ^ n + 2 ^ n := by rw [Nat.pow_succ]; omega
    rw [nb]; split <;> omega
theorem nb_bit (f : Nat → Bool) : ∀ n j, (nb f n).testBit j = (decide (j < n) && f j)
  | 0, j => by simp [nb]
  | n + 1, j => by
    rw [nb]
    rcases Nat.lt_trichotomy j n with h | h | h
    · split
      · rw [Nat.testBit_two_pow_add_gt h, nb_bit f n j]; simp [h, Nat.lt_succ_of_lt h]
      · rw [nb_bit f n j]; simp [h, Nat.lt_succ_of_lt h]
    · subst h
      have h0 : (nb f j).testBit j = false := Nat.testBit_lt_two_pow (nb_lt f j)
      split
      · rename_i hf; rw [Nat.testBit_two_pow_add_eq, h0]; simp [hf]
      · rename_i hf; rw [h0]; simp [hf]
    · have hn : ¬ j < n + 1 := by omega
      rw [decide_eq_false hn, Bool.false_and]
      have e : 2 ^ (n + 1) = 2 ^ n + 2 ^ n := by rw [Nat.pow_succ]; omega
      have := nb_lt f n
      apply Nat.testBit_lt_two_pow
      refine Nat.lt_of_lt_of_le ?_ (Nat.pow_le_pow_right (by decide) (show n + 1 ≤ j from h))
      split <;> omega
/-- n words with f's bits. -/
def wordsOf (n : Nat) (f : Nat → Bool) : List Int := (List.range n).map fun i => ((nb (fun j => f (64 * i + j)) 64 : Nat) : Int)
theorem wordsOf_length (n : Nat) (f : Nat → Bool) : (wordsOf n f).length = n := by simp [wordsOf]
theorem wordsOf_rng (n : Nat) (f : Nat → Bool) : ∀ x ∈ wordsOf n f, rng .u64 x := by
  intro x hx
  simp only [wordsOf, List.mem_map] at hx
  obtain ⟨i, _, rfl⟩ := hx
  have := nb_lt (fun j => f (64 * i + j)) 64
  simp only [rng]; omega
theorem wordsOf_bit {n : Nat} {f : Nat → Bool} {j : Nat} (h : j < 64 * n) : bitOf (wordsOf n f) j = f j := by
  have hi : j / 64 < n := by omega
  rw [bitOf_at (x := ((nb (fun k => f (64 * (j / 64) + k)) 64 : Nat) : Int)) (by simp [wordsOf, hi]), Int.toNat_natCast, nb_bit]
  have : j % 64 < 64 := Nat.mod_lt _ (by decide)
  simp only [this, decide_true, Bool.true_and]
  congr 1; omega
theorem words_ext {ws : List Int} {n : Nat} {f : Nat → Bool} (hl : ws.length = n) (hr : ∀ x ∈ ws, rng .u64 x) (hb : ∀ j, j < 64 * n → bitOf ws j = f j) : ws = wordsOf n f := by
  apply List.ext_getElem
  · rw [hl, wordsOf_length]
  · intro i h1 h2
    have hx := hr _ (List.getElem_mem h1)
    simp only [rng] at hx
    have h3 : (wordsOf n f)[i] = ((nb (fun j => f (64 * i + j)) 64 : Nat) : Int) := by simp [wordsOf]
    rw [h3]
    have : ws[i].toNat = nb (fun j => f (64 * i + j)) 64 := by
      apply Nat.eq_of_testBit_eq
      intro j
      rw [nb_bit]
      by_cases hj : j < 64
      · have := hb (64 * i + j) (by omega)
        rw [bitOf_at (x := ws[i]) (by rw [show (64 * i + j) / 64 = i from by omega]; simp), show (64 * i + j) % 64 = j from by omega] at this
        rw [this]; simp [hj]
      · rw [decide_eq_false hj, Bool.false_and]
        exact Nat.testBit_lt_two_pow (Nat.lt_of_lt_of_le (show ws[i].toNat < 2 ^ 64 by omega) (Nat.pow_le_pow_right (by decide) (by omega)))
    omega
theorem words_eq {ws vs : List Int} (hl : ws.length = vs.length) (hr : ∀ x ∈ ws, rng .u64 x) (hr' : ∀ x ∈ vs, rng .u64 x) (hb : ∀ j, j < 64 * vs.length → bitOf ws j = bitOf vs j) : ws = vs := by
  exact (words_ext hl hr hb).trans (words_ext rfl hr' (fun j _ => rfl)).symm
theorem wordsOf_congr {n : Nat} {f g : Nat → Bool} (h : ∀ j, j < 64 * n → f j = g j) : wordsOf n f = wordsOf n g :=
  words_ext (wordsOf_length _ _) (wordsOf_rng _ _) fun j hj => by rw [wordsOf_bit hj, h j hj]
theorem bitOf_none {ws : List Int} {j : Nat} (h : 64 * ws.length ≤ j) : bitOf ws j = false := by
  unfold bitOf
  rw [List.getElem?_eq_none (by omega)]
  simp
/-- The mask of a word. -/
theorem mask_bits {f n : Nat} (h : f + n ≤ 64) (j : Nat) (hj : j < 64) : (((2 ^ 64 - 1) >>> (64 - n)) <<< f % 2 ^ 64).testBit j = decide (f ≤ j ∧ j < f + n) := by
  rw [Nat.testBit_mod_two_pow, Nat.testBit_shiftLeft, Nat.testBit_shiftRight, Nat.testBit_two_pow_sub_one]
  simp only [hj, decide_true, Bool.true_and, Bool.decide_and]
  by_cases h1 : f ≤ j
  · have : (64 - n + (j - f) < 64) ↔ (j < f + n) := by omega
    simp [h1, this]
  · simp [h1]
end Go.Proofs.YtiolpldihoghiaaDoor

namespace Go.Proofs.YtiolpldihoghiaaDoor
open Go.RowKit
set_option linter.unusedVariables false
def noBm : Bm := ⟨0, []⟩
def newBm (n : Int) : Bm × Int := if 0 ≤ n ∧ n ≤ 4096 then (⟨n, wordsOf ((n + 63) / 64).toNat fun _ => false⟩, 0) else (noBm, 2)
def inExt (e : Ext) (j : Nat) : Bool := decide (e.start ≤ j ∧ (j : Int) < e.start + e.count)
def Ext.fits (e : Ext) (n : Int) : Prop := 0 ≤ e.start ∧ 0 ≤ e.count ∧ e.start ≤ n ∧ e.count ≤ n - e.start
instance (e : Ext) (n : Int) : Decidable (e.fits n) := inferInstanceAs (Decidable (_ ∧ _ ∧ _ ∧ _))
def setBm (b : Bm) (e : Ext) : Bm × Int :=
  if b.err ≠ 0 then (noBm, 3) else if ¬ e.fits b.size then (noBm, 2) else (⟨b.size, wordsOf b.words.length fun j => bitOf b.words j || inExt e j⟩, 0)
def orBm (a b : Bm) : Bm × Int :=
  if a.err ≠ 0 then (noBm, 3) else if b.err ≠ 0 then (noBm, 3) else if a.size ≠ b.size then (noBm, 22) else (⟨a.size, wordsOf a.words.length fun j => bitOf a.words j || bitOf b.words j⟩, 0)
theorem Bm.err_ne {b : Bm} (h : b.err ≠ 0) : b.err = 3 := (Bm.err_cases b).resolve_left h
theorem wordsOf_false (n : Nat) : wordsOf n (fun _ => false) = List.replicate n 0 := by
  have h : ∀ m, nb (fun _ => false) m = 0 := by
    intro m; induction m with
    | zero => rfl
    | succ m ih => simp [nb, ih]
  apply List.ext_getElem
  · simp [wordsOf]
  · intro i h1 h2; simp [wordsOf, h]
theorem bitOf_set {ws : List Int} {i : Nat} {x : Int} (hi : i < ws.length) (j : Nat) : bitOf (ws.set i x) j = if j / 64 = i then x.toNat.testBit (j % 64) else bitOf ws j := by
  unfold bitOf
  rw [List.getElem?_set]
  by_cases h : i = j / 64
  · subst h; simp [hi]
  · rw [if_neg h, if_neg (fun e => h e.symm)]
theorem or_bit (a b : Int) (j : Nat) : ((a.toNat ||| b.toNat : Nat) : Int).toNat.testBit j = (a.toNat.testBit j || b.toNat.testBit j) := by rw [Int.toNat_natCast, Nat.testBit_or]
theorem or_lt {a b : Int} (h1 : 0 ≤ a ∧ a < 18446744073709551616) (h2 : 0 ≤ b ∧ b < 18446744073709551616) : rng .u64 ((a.toNat ||| b.toNat : Nat) : Int) := by
  have : a.toNat ||| b.toNat < 2 ^ 64 := Nat.or_lt_two_pow (by omega) (by omega)
  simp only [rng]; omega
theorem rng_u64 {x : Int} (h : rng .u64 x) : 0 ≤ x ∧ x < 18446744073709551616 := by simp only [rng] at h; omega
theorem set_rng {ws : List Int} {i : Nat} {x : Int} {k : IntKind} (h : ∀ y ∈ ws, rng k y) (hx : rng k x) : ∀ y ∈ ws.set i x, rng k y := by
  intro y hy
  rcases List.mem_or_eq_of_mem_set hy with h1 | rfl
  · exact h y h1
  · exact hx
theorem step_bits {cur ws : List Int} {i : Nat} {x : Int} {f : Nat → Bool} (hi : i < cur.length) (h1 : ∀ j, j < 64 * i → bitOf cur j = f j) (h2 : ∀ j, 64 * i ≤ j → bitOf cur j = bitOf ws j)
    (hx : ∀ k, k < 64 → x.toNat.testBit k = f (64 * i + k)) : (∀ j, j < 64 * (i + 1) → bitOf (cur.set i x) j = f j) ∧ (∀ j, 64 * (i + 1) ≤ j → bitOf (cur.set i x) j = bitOf ws j) := by
  refine ⟨fun j hj => ?_, fun j hj => ?_⟩
  · rw [bitOf_set hi]
    split
    · rw [hx _ (Nat.mod_lt _ (by decide))]; congr 1; omega
    · exact h1 j (by omega)
  · rw [bitOf_set hi, if_neg (by omega)]; exact h2 j (by omega)
theorem at_bit {cur : List Int} {i k : Nat} (hi : i < cur.length) (hk : k < 64) : cur[i].toNat.testBit k = bitOf cur (64 * i + k) := by
  rw [bitOf_at (x := cur[i]) (by rw [show (64 * i + k) / 64 = i from by omega]; simp), show (64 * i + k) % 64 = k from by omega]
theorem one_bit {k j : Nat} (hk : k < 64) : (1 <<< k % 2 ^ 64).testBit j = decide (j = k) := by
  rw [Nat.testBit_mod_two_pow, Nat.testBit_shiftLeft]
  by_cases h : j = k
  · subst h; simp [hk]
  · by_cases h2 : k ≤ j
    · have : ¬ j - k = 0 := by omega
      have h3 : Nat.testBit 1 (j - k) = false := Nat.testBit_lt_two_pow (Nat.one_lt_two_pow this)
      simp [h, h2, h3]
    · simp [h, h2]
theorem set_one {cur : List Int} {q k : Nat} {x : Int} (hq : q < cur.length) (hk : k < 64) (hx : x.toNat = cur[q].toNat ||| 1 <<< k % 2 ^ 64) (j : Nat) : bitOf (cur.set q x) j = (bitOf cur j || decide (j = 64 * q + k)) := by
  rw [bitOf_set hq]
  split
  · rename_i h
    subst h
    rw [hx, Nat.testBit_or, one_bit hk]
    have hj : j % 64 < 64 := Nat.mod_lt _ (by decide)
    rw [at_bit hq hj, show 64 * (j / 64) + j % 64 = j from by omega]
    congr 1
    rw [Bool.eq_iff_iff, decide_eq_true_iff, decide_eq_true_iff]; omega
  · rename_i h
    rw [decide_eq_false (by omega : ¬ j = 64 * q + k), Bool.or_false]
/-! ### Bitmaps from lists -/
def fromGo : Bm × Int → List Ext → Bm × Int
  | p, [] => p
  | p, x :: r => if p.2 ≠ 0 then p else fromGo (setBm p.1 x) r
def fromBm (n : Int) (l : List Ext) : Bm × Int := fromGo (newBm n) l
structure BmOk (b : Bm) : Prop where
  size : rng .i64 b.size
  words : ∀ x ∈ b.words, rng .u64 x
  len : b.words.length ≤ 100000
theorem noBm_ok : BmOk noBm := ⟨by simp [noBm, rng], by simp [noBm], by simp [noBm]⟩
theorem words_ok {s : Int} {n : Nat} {f : Nat → Bool} (hs : rng .i64 s) (hn : n ≤ 100000) : BmOk ⟨s, wordsOf n f⟩ := ⟨hs, wordsOf_rng _ _, by rw [wordsOf_length]; exact hn⟩
theorem newBm_ok (n : Int) : BmOk (newBm n).1 := by
  unfold newBm; split
  · exact words_ok (by simp only [rng]; omega) (by omega)
  · exact noBm_ok
theorem setBm_ok {b : Bm} (h : BmOk b) (e : Ext) : BmOk (setBm b e).1 := by
  unfold setBm; repeat' split
  · exact noBm_ok
  · exact noBm_ok
  · exact words_ok h.size h.len
theorem orBm_ok {a b : Bm} (h : BmOk a) : BmOk (orBm a b).1 := by
  unfold orBm; repeat' split
  · exact noBm_ok
  · exact noBm_ok
  · exact noBm_ok
  · exact words_ok h.size h.len
theorem newBm_bad {n : Int} (h : (newBm n).2 ≠ 0) : newBm n = (noBm, (newBm n).2) := by
  unfold newBm at *; split <;> simp_all
theorem setBm_bad {b : Bm} {e : Ext} (h : (setBm b e).2 ≠ 0) : setBm b e = (noBm, (setBm b e).2) := by
  unfold setBm at *; repeat' split
  all_goals simp_all
theorem fromGo_bad {p : Bm × Int} {l : List Ext} (h : p.2 ≠ 0) : fromGo p l = p := by
  cases l with
  | nil => rfl
  | cons x r => rw [fromGo, if_pos h]
theorem fromGo_step {b : Bm} {l : List Ext} {i : Nat} (h : i < l.length) : fromGo (b, 0) (l.drop i) = fromGo (setBm b l[i]) (l.drop (i + 1)) := by
  rw [List.drop_eq_getElem_cons h, fromGo, if_neg (by simp)]
end Go.Proofs.YtiolpldihoghiaaDoor

namespace Go.Proofs.YtiolpldihoghiaaDoor
open Go.RowKit
set_option linter.unusedVariables false
/-- Number i is added behind all others. -/
def addExt (acc : List Ext) (i : Int) : List Ext :=
  match acc.getLast? with
  | none => acc ++ [⟨i, 1⟩]
  | some e => if e.start + e.count = i then acc.set (acc.length - 1) ⟨e.start, e.count + 1⟩ else acc ++ [⟨i, 1⟩]
def extsUpto (f : Nat → Bool) : Nat → List Ext
  | 0 => []
  | n + 1 => if f n then addExt (extsUpto f n) n else extsUpto f n
def exts (b : Bm) : List Ext := if b.err ≠ 0 then [] else extsUpto (bitOf b.words) b.size.toNat
/-- Well within bounds. -/
def ExtsIn (n : Nat) (l : List Ext) : Prop := l.length ≤ n ∧ ∀ e ∈ l, 0 ≤ e.start ∧ 0 ≤ e.count ∧ e.start + e.count ≤ n
theorem addExt_in {n : Nat} {l : List Ext} (h : ExtsIn n l) : ExtsIn (n + 1) (addExt l n) := by
  unfold addExt
  have hm : ∀ e ∈ l, 0 ≤ e.start ∧ 0 ≤ e.count ∧ e.start + e.count ≤ (n + 1 : Nat) := fun e he => by have := h.2 e he; omega
  have h1 := h.1
  have happ : ExtsIn (n + 1) (l ++ [⟨n, 1⟩]) := by
    refine ⟨by simp; omega, fun e he => ?_⟩
    rcases List.mem_append.1 he with he | he
    · exact hm e he
    · obtain rfl := List.mem_singleton.1 he
      simp only; omega
  split
  · exact happ
  · rename_i e he
    have hel := h.2 e (List.mem_of_getLast? he)
    split
    · refine ⟨by rw [List.length_set]; omega, fun x hx => ?_⟩
      rcases List.mem_or_eq_of_mem_set hx with hx | rfl
      · exact hm x hx
      · simp only; omega
    · exact happ
theorem extsUpto_in (f : Nat → Bool) : ∀ n, ExtsIn n (extsUpto f n)
  | 0 => ⟨Nat.le_refl _, fun e he => by cases he⟩
  | n + 1 => by
    rw [extsUpto]
    have ih := extsUpto_in f n
    split
    · exact addExt_in ih
    · exact ⟨by have := ih.1; omega, fun e he => by have := ih.2 e he; omega⟩
/-- The cells of an extent. -/
def fE (e : Ext) : List Value := [.int .i64 e.start, .int .i64 e.count]
theorem addExt_last {l : List Ext} {i : Int} {m : Nat} (hm : m < l.length) (h : m = l.length - 1) (he : l[m].start + l[m].count = i) : addExt l i = l.set m ⟨l[m].start, l[m].count + 1⟩ := by
  subst h
  unfold addExt
  rw [List.getLast?_eq_getElem?, List.getElem?_eq_getElem hm]
  simp only
  rw [if_pos he]
theorem addExt_new {l : List Ext} {i : Int} {m : Nat} (hm : m < l.length) (h : m = l.length - 1) (he : ¬ l[m].start + l[m].count = i) : addExt l i = l ++ [⟨i, 1⟩] := by
  subst h
  unfold addExt
  rw [List.getLast?_eq_getElem?, List.getElem?_eq_getElem hm]
  simp only
  rw [if_neg he]
theorem addExt_nil {l : List Ext} {i : Int} (h : l.length = 0) : addExt l i = l ++ [⟨i, 1⟩] := by
  rw [List.eq_nil_of_length_eq_zero h]; rfl
theorem extsUpto_yes {f : Nat → Bool} {n : Nat} (h : f n = true) : extsUpto f (n + 1) = addExt (extsUpto f n) n := by rw [extsUpto, if_pos h]
theorem extsUpto_no {f : Nat → Bool} {n : Nat} (h : ¬ f n = true) : extsUpto f (n + 1) = extsUpto f n := by rw [extsUpto, if_neg h]
end Go.Proofs.YtiolpldihoghiaaDoor

namespace Go.Proofs.YtiolpldihoghiaaDoor
open Go.RowKit
set_option linter.unusedVariables false
/-- The numbers below n at which f holds. -/
def elemsTo (f : Nat → Bool) : Nat → List Nat
  | 0 => []
  | n + 1 => if f n then elemsTo f n ++ [n] else elemsTo f n
theorem elemsTo_yes {f : Nat → Bool} {n : Nat} (h : f n = true) : elemsTo f (n + 1) = elemsTo f n ++ [n] := by rw [elemsTo, if_pos h]
theorem elemsTo_skip {f : Nat → Bool} {a : Nat} : ∀ {b : Nat}, a ≤ b → (∀ j, a ≤ j → j < b → f j = false) → elemsTo f a = elemsTo f b
  | 0, h, _ => by obtain rfl : a = 0 := by omega
                  rfl
  | b + 1, h, hf => by
    rcases Nat.lt_or_ge b a with h1 | h1
    · obtain rfl : a = b + 1 := by omega
      rfl
    · rw [elemsTo, if_neg (by rw [hf b h1 (by omega)]; decide)]
      exact elemsTo_skip h1 fun j h2 h3 => hf j h2 (by omega)
theorem elemsTo_len (f : Nat → Bool) : ∀ n, (elemsTo f n).length ≤ n
  | 0 => Nat.le_refl _
  | n + 1 => by
    rw [elemsTo]
    have := elemsTo_len f n
    split
    · rw [List.length_append, List.length_singleton]; omega
    · omega
def addAll (l : List Nat) : List Ext := l.foldl (fun acc (i : Nat) => addExt acc (i : Int)) []
theorem addAll_snoc (l : List Nat) (i : Nat) : addAll (l ++ [i]) = addExt (addAll l) i := by simp [addAll]
theorem addAll_elems (f : Nat → Bool) : ∀ n, addAll (elemsTo f n) = extsUpto f n
  | 0 => rfl
  | n + 1 => by
    rw [elemsTo, extsUpto]
    split
    · rw [addAll_snoc, addAll_elems f n]
    · exact addAll_elems f n
/-- Bounds that do not ask for an order. -/
def ExtsB (n : Nat) (l : List Ext) : Prop := l.length ≤ n ∧ ∀ e ∈ l, 0 ≤ e.start ∧ e.start ≤ 4096 ∧ 0 ≤ e.count ∧ e.count ≤ n
theorem addExt_B {n : Nat} {l : List Ext} {i : Nat} (h : ExtsB n l) (hi : i ≤ 4096) : ExtsB (n + 1) (addExt l i) := by
  unfold addExt
  have hm : ∀ e ∈ l, 0 ≤ e.start ∧ e.start ≤ 4096 ∧ 0 ≤ e.count ∧ e.count ≤ (n + 1 : Nat) := fun e he => by have := h.2 e he; omega
  have h1 := h.1
  have happ : ExtsB (n + 1) (l ++ [⟨i, 1⟩]) := by
    refine ⟨by simp; omega, fun e he => ?_⟩
    rcases List.mem_append.1 he with he | he
    · exact hm e he
    · obtain rfl := List.mem_singleton.1 he
      simp only; omega
  split
  · exact happ
  · rename_i e he
    have hel := h.2 e (List.mem_of_getLast? he)
    split
    · refine ⟨by rw [List.length_set]; omega, fun x hx => ?_⟩
      rcases List.mem_or_eq_of_mem_set hx with hx | rfl
      · exact hm x hx
      · simp only; omega
    · exact happ
theorem addAll_B' : ∀ (l : List Nat) (acc : List Ext) (n : Nat), ExtsB n acc → (∀ i ∈ l, i ≤ 4096) → ExtsB (n + l.length) (l.foldl (fun acc (i : Nat) => addExt acc (i : Int)) acc)
  | [], acc, n, h, _ => h
  | i :: l, acc, n, h, hl => by
    rw [List.foldl_cons, List.length_cons, show n + (l.length + 1) = n + 1 + l.length from by omega]
    exact addAll_B' l _ _ (addExt_B h (hl i (by simp))) fun j hj => hl j (by simp [hj])
theorem addAll_B (l : List Nat) (h : ∀ i ∈ l, i ≤ 4096) : ExtsB l.length (addAll l) := by
  have := addAll_B' l [] 0 ⟨Nat.le_refl _, fun e he => by cases he⟩ h
  rwa [Nat.zero_add] at this
/-! ### The lowest bit -/
theorem low_form {x : Nat} (h0 : x ≠ 0) (hx : x < 18446744073709551616) : ∃ m, x = 2 ^ (Lib.ctz 64 x + 1) * m + 2 ^ Lib.ctz 64 x ∧ Lib.ctz 64 x < 64 := by
  obtain ⟨m, hm, hk⟩ := Lib.ctzFrom_spec 64 x (by omega) hx
  have e : Lib.ctz 64 x = Lib.ctzFrom 64 x := by simp [Lib.ctz, h0]
  rw [e]
  refine ⟨m, ?_, hk⟩
  rw [Nat.pow_succ, Nat.mul_assoc]
  exact hm.trans (by rw [Nat.mul_add, Nat.mul_one])
theorem low_bits {k m : Nat} (j : Nat) : (2 ^ (k + 1) * m + 2 ^ k).testBit j = if j < k + 1 then decide (j = k) else m.testBit (j - (k + 1)) := by
  rw [Nat.testBit_two_pow_mul_add m (Nat.pow_lt_pow_right (by decide) (Nat.lt_succ_self k))]
  split
  · rw [Nat.testBit_two_pow]; simp [eq_comm]
  · rfl
theorem ctz_set {x : Nat} (h0 : x ≠ 0) (hx : x < 18446744073709551616) : x.testBit (Lib.ctz 64 x) = true := by
  obtain ⟨m, hm, _⟩ := low_form h0 hx
  generalize Lib.ctz 64 x = k at *
  rw [hm, low_bits, if_pos (by omega)]; simp
theorem ctz_low {x : Nat} (h0 : x ≠ 0) (hx : x < 18446744073709551616) {j : Nat} (hj : j < Lib.ctz 64 x) : x.testBit j = false := by
  obtain ⟨m, hm, _⟩ := low_form h0 hx
  generalize Lib.ctz 64 x = k at *
  rw [hm, low_bits, if_pos (by omega)]; simp; omega
theorem clear_low {x : Nat} (h0 : x ≠ 0) (hx : x < 18446744073709551616) (j : Nat) : (x &&& (x - 1)).testBit j = (x.testBit j && decide (j ≠ Lib.ctz 64 x)) := by
  obtain ⟨m, hm, _⟩ := low_form h0 hx
  generalize Lib.ctz 64 x = k at *
  have hp : 0 < 2 ^ k := Nat.two_pow_pos k
  have e : x - 1 = 2 ^ (k + 1) * m + (2 ^ k - 1) := by omega
  rw [Nat.testBit_and, e, hm, low_bits, Nat.testBit_two_pow_mul_add m (by have := Nat.pow_lt_pow_right (a := 2) (by decide) (Nat.lt_succ_self k); omega)]
  split
  · rw [Nat.testBit_two_pow_sub_one]
    by_cases h : j = k
    · subst h; simp
    · simp [h]
  · rename_i h
    have : j ≠ k := by omega
    simp [this]
end Go.Proofs.YtiolpldihoghiaaDoor

namespace Go.Proofs.YtiolpldihoghiaaDoor
open Go.RowKit
set_option linter.unusedVariables false
set_option linter.unusedSimpArgs false
set_option maxHeartbeats 2000000
theorem ca_Bm1 {k : FuncId} {vs : List Value} {w1 : World} {v : Value} (h : Ret Tryd.prog k vs w1 (fun u _ => u = v) := by first | exact words_any _ _ (by omega) (by omega) | exact rbit_any _ _ _ _ _ _ _ (by omega) (by omega) (H.fact _ mem_auto)) : Ret Tryd.prog k vs w1 (fun u _ => u = v) := h
theorem words_any (n : Int) (w : World) (h0 : 0 ≤ n) (h1 : n ≤ 4096) :
    Ret Tryd.prog 131 [.int .i64 n] w fun v _ => v = .int .i64 ((n + 63) / 64) := by
  refine enter (M := fun _ => False) (F := []) Tryd.func131 rfl rfl rfl (by simp) fun H => ?_
  repeat' (first | (apply l_rd; exact rd_go; rfl) | (apply q_rd; exact rd_go; rfl) | refine stp ?_ | refine bk_o rfl ?_ | refine c_true ⟨rfl, rfl⟩ ?_ | refine c_false ⟨rfl, rfl⟩ ?_ | (apply l_rdg; rfl; rfl; rfl; exact rd_go; rfl) | refine l_skip rfl rfl rfl rfl ?_ | (apply q_rdg; rfl; rfl; rfl; exact rd_go; rfl) | refine q_skip rfl rfl rfl rfl ?_ | refine c_draw H (by kernel_rfl) ?_ | (refine q_end ?_; clear H; intro _ H) | ((first | refine l_st (z_box H ?_) | refine l_st (s_alloc H rfl ?_)); clear H; intro _ _ _ H) | (refine l_st (t_build0 H rfl ?_); clear H; intro _ _ _ _ H) | (refine l_st (z_sto H ?_); clear H; intro _ H) | ((first | refine c_cond ⟨rfl, rfl⟩ ?_ ?_ | refine c_ncond ⟨rfl, rfl⟩ ?_ ?_ | refine l_split rfl rfl ?_ ?_ | refine q_split rfl rfl ?_ ?_ | refine l_nsplit rfl rfl ?_ ?_ | refine q_nsplit rfl rfl ?_ ?_) <;> intro _ <;> try (exfalso; omega)) | (refine l_st (k_call1 evs_auto H ca_Bm1 rfl ?_); clear H; intro _ _ H) | (refine l_st (k_callg1 evs_auto rfl rfl rfl H ca_Bm1 rfl ?_); clear H; intro _ _ H) | refine kq_call1 evs_auto H (fun _ H => ca_Bm1) rfl ?_ | refine kq_callg1 evs_auto rfl rfl rfl H (fun _ H => ca_Bm1) rfl ?_)
  refine ret1 H rfl rfl rfl ?_
  exact iv (by omega)
theorem bCheck_any (M : Nat → Prop) (b : Bm) (A : Option Addr) (c : Nat) (w : World) (hs : rng .i64 b.size) (hF : Stab w M (Row (kInt .u64) 1 A b.words)) :
    Ret Tryd.prog 94 [.agg [.int .i64 b.size, .slice A b.words.length c].toArray] w fun v _ => v = .int .i64 b.err := by
  have hr := rng_row hF
  have hl := hF.now.len
  simp only [rng] at hs
  refine enter (M := M) (F := [Row (kInt .u64) 1 A b.words]) Tryd.func94 rfl rfl rfl (by simpa using hF) fun H => ?_
  repeat' (first | (apply l_rd; exact rd_go; rfl) | (apply q_rd; exact rd_go; rfl) | refine stp ?_ | refine bk_o rfl ?_ | refine c_true ⟨rfl, rfl⟩ ?_ | refine c_false ⟨rfl, rfl⟩ ?_ | (apply l_rdg; rfl; rfl; rfl; exact rd_go; rfl) | refine l_skip rfl rfl rfl rfl ?_ | (apply q_rdg; rfl; rfl; rfl; exact rd_go; rfl) | refine q_skip rfl rfl rfl rfl ?_ | refine c_draw H (by kernel_rfl) ?_ | (refine q_end ?_; clear H; intro _ H) | ((first | refine l_st (z_box H ?_) | refine l_st (s_alloc H rfl ?_)); clear H; intro _ _ _ H) | (refine l_st (t_build0 H rfl ?_); clear H; intro _ _ _ _ H) | (refine l_st (z_sto H ?_); clear H; intro _ H) | ((first | refine c_cond ⟨rfl, rfl⟩ ?_ ?_ | refine c_ncond ⟨rfl, rfl⟩ ?_ ?_ | refine l_split rfl rfl ?_ ?_ | refine q_split rfl rfl ?_ ?_ | refine l_nsplit rfl rfl ?_ ?_ | refine q_nsplit rfl rfl ?_ ?_) <;> intro _ <;> try (exfalso; omega)) | (refine l_st (k_call1 evs_auto H ca_Bm1 rfl ?_); clear H; intro _ _ H) | (refine l_st (k_callg1 evs_auto rfl rfl rfl H ca_Bm1 rfl ?_); clear H; intro _ _ H) | refine kq_call1 evs_auto H (fun _ H => ca_Bm1) rfl ?_ | refine kq_callg1 evs_auto rfl rfl rfl H (fun _ H => ca_Bm1) rfl ?_)
  · exact ret1 H rfl rfl rfl (iv (Bm.err_neg fun h => by have := h.1; omega).symm)
  · exact ret1 H rfl rfl rfl (iv (Bm.err_neg fun h => by have := h.2.1; omega).symm)
  · exact ret1 H rfl rfl rfl (iv (Bm.err_neg fun h => by have := h.2.2.1; omega).symm)
  · rename_i h1 h2 h3 h4 h5
    refine ret1 H rfl rfl rfl (iv ?_)
    have := Bm.last_err (b := b) (by omega) (by omega) (by omega) hr h4 (i := (b.words.length - 1 : Int).toNat) (by omega) (by omega)
    rcases Bm.err_cases b with h | h
    · exact absurd (this.2 h) h5
    · exact h.symm
  · rename_i h1 h2 h3 h4 h5
    refine ret1 H rfl rfl rfl (iv ?_)
    have := Bm.last_err (b := b) (by omega) (by omega) (by omega) hr h4 (i := (b.words.length - 1 : Int).toNat) (by omega) (by omega)
    exact (this.1 (by simpa using h5)).symm
  · exact ret1 H rfl rfl rfl (iv (Bm.err_pos ⟨by omega, by omega, by omega, fine_whole (by omega) (by omega)⟩).symm)
/-- The reference's bit. -/
theorem rbit_any (M : Nat → Prop) (ws : List Int) (A : Option Addr) (c : Nat) (s i : Int) (w : World) (h0 : 0 ≤ i) (h1 : i < 64 * ws.length) (hF : Stab w M (Row (kInt .u64) 1 A ws)) :
    Ret Tryd.prog 68 [.agg [.int .i64 s, .slice A ws.length c].toArray, .int .i64 i] w fun v _ => v = .bool (decide (bitOf ws i.toNat = true)) := by
  have hr := rng_row hF
  have hl := hF.now.len
  refine enter (M := M) (F := [Row (kInt .u64) 1 A ws]) Tryd.func68 rfl rfl rfl (by simpa using hF) fun H => ?_
  repeat' (first | (apply l_rd; exact rd_go; rfl) | (apply q_rd; exact rd_go; rfl) | refine stp ?_ | refine bk_o rfl ?_ | refine c_true ⟨rfl, rfl⟩ ?_ | refine c_false ⟨rfl, rfl⟩ ?_ | (apply l_rdg; rfl; rfl; rfl; exact rd_go; rfl) | refine l_skip rfl rfl rfl rfl ?_ | (apply q_rdg; rfl; rfl; rfl; exact rd_go; rfl) | refine q_skip rfl rfl rfl rfl ?_ | refine c_draw H (by kernel_rfl) ?_ | (refine q_end ?_; clear H; intro _ H) | ((first | refine l_st (z_box H ?_) | refine l_st (s_alloc H rfl ?_)); clear H; intro _ _ _ H) | (refine l_st (t_build0 H rfl ?_); clear H; intro _ _ _ _ H) | (refine l_st (z_sto H ?_); clear H; intro _ H) | ((first | refine c_cond ⟨rfl, rfl⟩ ?_ ?_ | refine c_ncond ⟨rfl, rfl⟩ ?_ ?_ | refine l_split rfl rfl ?_ ?_ | refine q_split rfl rfl ?_ ?_ | refine l_nsplit rfl rfl ?_ ?_ | refine q_nsplit rfl rfl ?_ ?_) <;> intro _ <;> try (exfalso; omega)) | (refine l_st (k_call1 evs_auto H ca_Bm1 rfl ?_); clear H; intro _ _ H) | (refine l_st (k_callg1 evs_auto rfl rfl rfl H ca_Bm1 rfl ?_); clear H; intro _ _ H) | refine kq_call1 evs_auto H (fun _ H => ca_Bm1) rfl ?_ | refine kq_callg1 evs_auto rfl rfl rfl H (fun _ H => ca_Bm1) rfl ?_)
  refine ret1 H rfl rfl rfl ?_
  refine bv ?_
  have hi : (i / 64).toNat < ws.length := by omega
  rw [bitOf_at (x := ws[(i / 64).toNat]) (by rw [show i.toNat / 64 = (i / 64).toNat from by omega]; simp), show i.toNat % 64 = (i % 64).toNat from by omega, Bool.eq_iff_iff, decide_eq_true_iff, decide_eq_true_iff]
  exact and1_iff _ _
theorem rCheck_any (M : Nat → Prop) (b : Bm) (A : Option Addr) (c : Nat) (w : World) (hs : rng .i64 b.size) (hF : Stab w M (Row (kInt .u64) 1 A b.words)) :
    Ret Tryd.prog 67 [.agg [.int .i64 b.size, .slice A b.words.length c].toArray] w fun v _ => v = .int .i64 b.err := by
  have hl := hF.now.len
  simp only [rng] at hs
  refine enter (M := M) (F := [Row (kInt .u64) 1 A b.words]) Tryd.func67 rfl rfl rfl (by simpa using hF) fun H => ?_
  repeat' (first | (apply l_rd; exact rd_go; rfl) | (apply q_rd; exact rd_go; rfl) | refine stp ?_ | refine bk_o rfl ?_ | refine c_true ⟨rfl, rfl⟩ ?_ | refine c_false ⟨rfl, rfl⟩ ?_ | (apply l_rdg; rfl; rfl; rfl; exact rd_go; rfl) | refine l_skip rfl rfl rfl rfl ?_ | (apply q_rdg; rfl; rfl; rfl; exact rd_go; rfl) | refine q_skip rfl rfl rfl rfl ?_ | refine c_draw H (by kernel_rfl) ?_ | (refine q_end ?_; clear H; intro _ H) | ((first | refine l_st (z_box H ?_) | refine l_st (s_alloc H rfl ?_)); clear H; intro _ _ _ H) | (refine l_st (t_build0 H rfl ?_); clear H; intro _ _ _ _ H) | (refine l_st (z_sto H ?_); clear H; intro _ H) | ((first | refine c_cond ⟨rfl, rfl⟩ ?_ ?_ | refine c_ncond ⟨rfl, rfl⟩ ?_ ?_ | refine l_split rfl rfl ?_ ?_ | refine q_split rfl rfl ?_ ?_ | refine l_nsplit rfl rfl ?_ ?_ | refine q_nsplit rfl rfl ?_ ?_) <;> intro _ <;> try (exfalso; omega)) | (refine l_st (k_call1 evs_auto H ca_Bm1 rfl ?_); clear H; intro _ _ H) | (refine l_st (k_callg1 evs_auto rfl rfl rfl H ca_Bm1 rfl ?_); clear H; intro _ _ H) | refine kq_call1 evs_auto H (fun _ H => ca_Bm1) rfl ?_ | refine kq_callg1 evs_auto rfl rfl rfl H (fun _ H => ca_Bm1) rfl ?_)
  · exact ret1 H rfl rfl rfl (iv (Bm.err_neg fun h => by have := h.1; omega).symm)
  · exact ret1 H rfl rfl rfl (iv (Bm.err_neg fun h => by have := h.2.1; omega).symm)
  · exact ret1 H rfl rfl rfl (iv (Bm.err_neg fun h => by have := h.2.2.1; omega).symm)
  refine c_loopk [3] [1] (fun n vs w' => ∃ i : Int, vs = [.int .i64 i] ∧ b.size ≤ i ∧ i ≤ 64 * b.words.length ∧ n = (64 * b.words.length - i).toNat ∧ (∀ j : Nat, b.size ≤ j → j < i → bitOf b.words j = false) ∧ Hp w M w' _ [] [Row (kInt .u64) 1 A b.words]) _ [lp _ 0] rfl ⟨b.size, rfl, by omega, by omega, rfl, fun j h1 h2 => by omega, H⟩ ?_
  clear H
  rintro n _ E0 w' ⟨i, rfl, h1, h2, rfl, h3, H⟩
  repeat' (first | (apply l_rd; exact rd_go; rfl) | (apply q_rd; exact rd_go; rfl) | refine stp ?_ | refine bk_o rfl ?_ | refine c_true ⟨rfl, rfl⟩ ?_ | refine c_false ⟨rfl, rfl⟩ ?_ | (apply l_rdg; rfl; rfl; rfl; exact rd_go; rfl) | refine l_skip rfl rfl rfl rfl ?_ | (apply q_rdg; rfl; rfl; rfl; exact rd_go; rfl) | refine q_skip rfl rfl rfl rfl ?_ | refine c_draw H (by kernel_rfl) ?_ | (refine q_end ?_; clear H; intro _ H) | ((first | refine l_st (z_box H ?_) | refine l_st (s_alloc H rfl ?_)); clear H; intro _ _ _ H) | (refine l_st (t_build0 H rfl ?_); clear H; intro _ _ _ _ H) | (refine l_st (z_sto H ?_); clear H; intro _ H) | ((first | refine c_cond ⟨rfl, rfl⟩ ?_ ?_ | refine c_ncond ⟨rfl, rfl⟩ ?_ ?_ | refine l_split rfl rfl ?_ ?_ | refine q_split rfl rfl ?_ ?_ | refine l_nsplit rfl rfl ?_ ?_ | refine q_nsplit rfl rfl ?_ ?_) <;> intro _ <;> try (exfalso; omega)) | (refine l_st (k_call1 evs_auto H ca_Bm1 rfl ?_); clear H; intro _ _ H) | (refine l_st (k_callg1 evs_auto rfl rfl rfl H ca_Bm1 rfl ?_); clear H; intro _ _ H) | refine kq_call1 evs_auto H (fun _ H => ca_Bm1) rfl ?_ | refine kq_callg1 evs_auto rfl rfl rfl H (fun _ H => ca_Bm1) rfl ?_)
  · rename_i hb
    refine ret1 H rfl rfl rfl (iv (Bm.err_neg fun h => ?_).symm)
    have := h.2.2.2 i.toNat (by omega) (by omega)
    rw [hb] at this; cases this
  · rename_i hb
    refine lk_n rfl (n' := (64 * b.words.length - (i + 1)).toNat) (by omega) ⟨i + 1, rfl, by omega, by omega, rfl, fun j h4 h5 => ?_, H⟩
    rcases Int.lt_or_le j i with h6 | h6
    · exact h3 j h4 h6
    · rw [show j = i.toNat from by omega]; simpa using hb
  · exact ret1 H rfl rfl rfl (iv (Bm.err_pos ⟨by omega, by omega, by omega, fun j h4 h5 => h3 j (by omega) (by omega)⟩).symm)
end Go.Proofs.YtiolpldihoghiaaDoor

namespace Go.Proofs.YtiolpldihoghiaaDoor
open Go.RowKit
set_option linter.unusedVariables false
set_option linter.unusedSimpArgs false
set_option maxHeartbeats 2000000
theorem clone64 (M : Nat → Prop) {α : Type} {d : Rp α} [OneC d] (xs : List α) (A : Option Addr) (c : Nat) (w : World) (hl : xs.length ≤ 140737488355328 / 8) (hF : Stab w M (Row d 1 A xs)) :
    Ret Tryd.prog 85 [.slice A xs.length c] w fun v w' => Fresh d 151 1 M w xs v w' := by
  refine enter (M := M) (F := [Row d 1 A xs]) Tryd.func85 rfl rfl rfl (by simpa using hF) fun H => ?_
  repeat' (first | (apply l_rd; exact rd_go; rfl) | (apply q_rd; exact rd_go; rfl) | refine stp ?_ | refine bk_o rfl ?_ | refine c_true ⟨rfl, rfl⟩ ?_ | refine c_false ⟨rfl, rfl⟩ ?_ | (apply l_rdg; rfl; rfl; rfl; exact rd_go; rfl) | refine l_skip rfl rfl rfl rfl ?_ | (apply q_rdg; rfl; rfl; rfl; exact rd_go; rfl) | refine q_skip rfl rfl rfl rfl ?_ | refine c_draw H (by kernel_rfl) ?_ | (refine q_end ?_; clear H; intro _ H) | ((first | refine l_st (z_box H ?_) | refine l_st (s_alloc H rfl ?_)); clear H; intro _ _ _ H) | (refine l_st (t_build0 H rfl ?_); clear H; intro _ _ _ _ H) | (refine l_st (z_sto H ?_); clear H; intro _ H) | ((first | refine c_cond ⟨rfl, rfl⟩ ?_ ?_ | refine c_ncond ⟨rfl, rfl⟩ ?_ ?_ | refine l_split rfl rfl ?_ ?_ | refine q_split rfl rfl ?_ ?_ | refine l_nsplit rfl rfl ?_ ?_ | refine q_nsplit rfl rfl ?_ ?_) <;> intro _ <;> try (exfalso; omega)))
  · rename_i hA
    have hxs : xs = [] := by
      apply Classical.byContradiction; intro hne
      obtain ⟨a, ha, _⟩ := hF.now.at_ hne
      subst ha; simp at hA
    subst hxs
    exact ret1 H rfl rfl rfl H.fresh_nil
  · refine l_st (t_append_row (j := 0) H rfl ⟨rfl, rfl⟩ ⟨rfl, rfl⟩ mem_auto (by omega) rfl ?_)
    intro A' c' w' news hG hn H
    repeat' (first | (apply l_rd; exact rd_go; rfl) | (apply q_rd; exact rd_go; rfl) | refine stp ?_ | refine bk_o rfl ?_ | refine c_true ⟨rfl, rfl⟩ ?_ | refine c_false ⟨rfl, rfl⟩ ?_ | (apply l_rdg; rfl; rfl; rfl; exact rd_go; rfl) | refine l_skip rfl rfl rfl rfl ?_ | (apply q_rdg; rfl; rfl; rfl; exact rd_go; rfl) | refine q_skip rfl rfl rfl rfl ?_ | refine c_draw H (by kernel_rfl) ?_ | (refine q_end ?_; clear H; intro _ H) | ((first | refine l_st (z_box H ?_) | refine l_st (s_alloc H rfl ?_)); clear H; intro _ _ _ H) | (refine l_st (t_build0 H rfl ?_); clear H; intro _ _ _ _ H) | (refine l_st (z_sto H ?_); clear H; intro _ H) | ((first | refine c_cond ⟨rfl, rfl⟩ ?_ ?_ | refine c_ncond ⟨rfl, rfl⟩ ?_ ?_ | refine l_split rfl rfl ?_ ?_ | refine q_split rfl rfl ?_ ?_ | refine l_nsplit rfl rfl ?_ ?_ | refine q_nsplit rfl rfl ?_ ?_) <;> intro _ <;> try (exfalso; omega)))
    exact ret1 H rfl rfl rfl (H.fresh (j := 0) rfl (List.mem_cons_self ..) (Nat.zero_add _))
theorem cloneInt (M : Nat → Prop) {α : Type} {d : Rp α} [OneC d] (xs : List α) (A : Option Addr) (c : Nat) (w : World) (hl : xs.length ≤ 140737488355328 / 8) (hF : Stab w M (Row d 1 A xs)) :
    Ret Tryd.prog 51 [.slice A xs.length c] w fun v w' => Fresh d 3 1 M w xs v w' := by
  refine enter (M := M) (F := [Row d 1 A xs]) Tryd.func51 rfl rfl rfl (by simpa using hF) fun H => ?_
  repeat' (first | (apply l_rd; exact rd_go; rfl) | (apply q_rd; exact rd_go; rfl) | refine stp ?_ | refine bk_o rfl ?_ | refine c_true ⟨rfl, rfl⟩ ?_ | refine c_false ⟨rfl, rfl⟩ ?_ | (apply l_rdg; rfl; rfl; rfl; exact rd_go; rfl) | refine l_skip rfl rfl rfl rfl ?_ | (apply q_rdg; rfl; rfl; rfl; exact rd_go; rfl) | refine q_skip rfl rfl rfl rfl ?_ | refine c_draw H (by kernel_rfl) ?_ | (refine q_end ?_; clear H; intro _ H) | ((first | refine l_st (z_box H ?_) | refine l_st (s_alloc H rfl ?_)); clear H; intro _ _ _ H) | (refine l_st (t_build0 H rfl ?_); clear H; intro _ _ _ _ H) | (refine l_st (z_sto H ?_); clear H; intro _ H) | ((first | refine c_cond ⟨rfl, rfl⟩ ?_ ?_ | refine c_ncond ⟨rfl, rfl⟩ ?_ ?_ | refine l_split rfl rfl ?_ ?_ | refine q_split rfl rfl ?_ ?_ | refine l_nsplit rfl rfl ?_ ?_ | refine q_nsplit rfl rfl ?_ ?_) <;> intro _ <;> try (exfalso; omega)))
  · rename_i hA
    have hxs : xs = [] := by
      apply Classical.byContradiction; intro hne
      obtain ⟨a, ha, _⟩ := hF.now.at_ hne
      subst ha; simp at hA
    subst hxs
    exact ret1 H rfl rfl rfl H.fresh_nil
  · refine l_st (t_append_row (j := 0) H rfl ⟨rfl, rfl⟩ ⟨rfl, rfl⟩ mem_auto (by omega) rfl ?_)
    intro A' c' w' news hG hn H
    repeat' (first | (apply l_rd; exact rd_go; rfl) | (apply q_rd; exact rd_go; rfl) | refine stp ?_ | refine bk_o rfl ?_ | refine c_true ⟨rfl, rfl⟩ ?_ | refine c_false ⟨rfl, rfl⟩ ?_ | (apply l_rdg; rfl; rfl; rfl; exact rd_go; rfl) | refine l_skip rfl rfl rfl rfl ?_ | (apply q_rdg; rfl; rfl; rfl; exact rd_go; rfl) | refine q_skip rfl rfl rfl rfl ?_ | refine c_draw H (by kernel_rfl) ?_ | (refine q_end ?_; clear H; intro _ H) | ((first | refine l_st (z_box H ?_) | refine l_st (s_alloc H rfl ?_)); clear H; intro _ _ _ H) | (refine l_st (t_build0 H rfl ?_); clear H; intro _ _ _ _ H) | (refine l_st (z_sto H ?_); clear H; intro _ H) | ((first | refine c_cond ⟨rfl, rfl⟩ ?_ ?_ | refine c_ncond ⟨rfl, rfl⟩ ?_ ?_ | refine l_split rfl rfl ?_ ?_ | refine q_split rfl rfl ?_ ?_ | refine l_nsplit rfl rfl ?_ ?_ | refine q_nsplit rfl rfl ?_ ?_) <;> intro _ <;> try (exfalso; omega)))
    exact ret1 H rfl rfl rfl (H.fresh (j := 0) rfl (List.mem_cons_self ..) (Nat.zero_add _))
theorem cloneSec (M : Nat → Prop) {α : Type} {d : Rp α} [OneC d] (xs : List α) (A : Option Addr) (c : Nat) (w : World) (hl : xs.length ≤ 140737488355328 / 8) (hF : Stab w M (Row d 8 A xs)) :
    Ret Tryd.prog 52 [.slice A xs.length c] w fun v w' => Fresh d 71 8 M w xs v w' := by
  refine enter (M := M) (F := [Row d 8 A xs]) Tryd.func52 rfl rfl rfl (by simpa using hF) fun H => ?_
  repeat' (first | (apply l_rd; exact rd_go; rfl) | (apply q_rd; exact rd_go; rfl) | refine stp ?_ | refine bk_o rfl ?_ | refine c_true ⟨rfl, rfl⟩ ?_ | refine c_false ⟨rfl, rfl⟩ ?_ | (apply l_rdg; rfl; rfl; rfl; exact rd_go; rfl) | refine l_skip rfl rfl rfl rfl ?_ | (apply q_rdg; rfl; rfl; rfl; exact rd_go; rfl) | refine q_skip rfl rfl rfl rfl ?_ | refine c_draw H (by kernel_rfl) ?_ | (refine q_end ?_; clear H; intro _ H) | ((first | refine l_st (z_box H ?_) | refine l_st (s_alloc H rfl ?_)); clear H; intro _ _ _ H) | (refine l_st (t_build0 H rfl ?_); clear H; intro _ _ _ _ H) | (refine l_st (z_sto H ?_); clear H; intro _ H) | ((first | refine c_cond ⟨rfl, rfl⟩ ?_ ?_ | refine c_ncond ⟨rfl, rfl⟩ ?_ ?_ | refine l_split rfl rfl ?_ ?_ | refine q_split rfl rfl ?_ ?_ | refine l_nsplit rfl rfl ?_ ?_ | refine q_nsplit rfl rfl ?_ ?_) <;> intro _ <;> try (exfalso; omega)))
  · rename_i hA
    have hxs : xs = [] := by
      apply Classical.byContradiction; intro hne
      obtain ⟨a, ha, _⟩ := hF.now.at_ hne
      subst ha; simp at hA
    subst hxs
    exact ret1 H rfl rfl rfl H.fresh_nil
  · refine l_st (t_append_row (j := 0) H rfl ⟨rfl, rfl⟩ ⟨rfl, rfl⟩ mem_auto (by omega) rfl ?_)
    intro A' c' w' news hG hn H
    repeat' (first | (apply l_rd; exact rd_go; rfl) | (apply q_rd; exact rd_go; rfl) | refine stp ?_ | refine bk_o rfl ?_ | refine c_true ⟨rfl, rfl⟩ ?_ | refine c_false ⟨rfl, rfl⟩ ?_ | (apply l_rdg; rfl; rfl; rfl; exact rd_go; rfl) | refine l_skip rfl rfl rfl rfl ?_ | (apply q_rdg; rfl; rfl; rfl; exact rd_go; rfl) | refine q_skip rfl rfl rfl rfl ?_ | refine c_draw H (by kernel_rfl) ?_ | (refine q_end ?_; clear H; intro _ H) | ((first | refine l_st (z_box H ?_) | refine l_st (s_alloc H rfl ?_)); clear H; intro _ _ _ H) | (refine l_st (t_build0 H rfl ?_); clear H; intro _ _ _ _ H) | (refine l_st (z_sto H ?_); clear H; intro _ H) | ((first | refine c_cond ⟨rfl, rfl⟩ ?_ ?_ | refine c_ncond ⟨rfl, rfl⟩ ?_ ?_ | refine l_split rfl rfl ?_ ?_ | refine q_split rfl rfl ?_ ?_ | refine l_nsplit rfl rfl ?_ ?_ | refine q_nsplit rfl rfl ?_ ?_) <;> intro _ <;> try (exfalso; omega)))
    exact ret1 H rfl rfl rfl (H.fresh (j := 0) rfl (List.mem_cons_self ..) (Nat.zero_add _))
theorem fits_any (s k n : Int) (w : World) (h1 : rng .i64 s) (h2 : rng .i64 k) (h3 : 0 ≤ n ∧ n ≤ 4096) :
    Ret Tryd.prog 158 [.agg [.int .i64 s, .int .i64 k].toArray, .int .i64 n] w fun v _ => v = .bool (decide (0 ≤ s ∧ 0 ≤ k ∧ s ≤ n ∧ k ≤ n - s)) := by
  simp only [rng] at h1 h2
  refine enter (M := fun _ => False) (F := []) Tryd.func158 rfl rfl rfl (by simp) fun H => ?_
  repeat' (first | (apply l_rd; exact rd_go; rfl) | (apply q_rd; exact rd_go; rfl) | refine stp ?_ | refine bk_o rfl ?_ | refine c_true ⟨rfl, rfl⟩ ?_ | refine c_false ⟨rfl, rfl⟩ ?_ | (apply l_rdg; rfl; rfl; rfl; exact rd_go; rfl) | refine l_skip rfl rfl rfl rfl ?_ | (apply q_rdg; rfl; rfl; rfl; exact rd_go; rfl) | refine q_skip rfl rfl rfl rfl ?_ | refine c_draw H (by kernel_rfl) ?_ | (refine q_end ?_; clear H; intro _ H) | ((first | refine l_st (z_box H ?_) | refine l_st (s_alloc H rfl ?_)); clear H; intro _ _ _ H) | (refine l_st (t_build0 H rfl ?_); clear H; intro _ _ _ _ H) | (refine l_st (z_sto H ?_); clear H; intro _ H) | ((first | refine c_cond ⟨rfl, rfl⟩ ?_ ?_ | refine c_ncond ⟨rfl, rfl⟩ ?_ ?_ | refine l_split rfl rfl ?_ ?_ | refine q_split rfl rfl ?_ ?_ | refine l_nsplit rfl rfl ?_ ?_ | refine q_nsplit rfl rfl ?_ ?_) <;> intro _ <;> try (exfalso; omega)))
  all_goals (refine ret1 H rfl rfl rfl ?_; refine bv ?_; rw [Bool.eq_iff_iff]; simp; try omega)
theorem rFits_any (s k n : Int) (w : World) (h1 : rng .i64 s) (h2 : rng .i64 k) (h3 : 0 ≤ n ∧ n ≤ 4096) :
    Ret Tryd.prog 149 [.agg [.int .i64 s, .int .i64 k].toArray, .int .i64 n] w fun v _ => v = .bool (decide (0 ≤ s ∧ 0 ≤ k ∧ s ≤ n ∧ k ≤ n - s)) := by
  simp only [rng] at h1 h2
  refine enter (M := fun _ => False) (F := []) Tryd.func149 rfl rfl rfl (by simp) fun H => ?_
  repeat' (first | (apply l_rd; exact rd_go; rfl) | (apply q_rd; exact rd_go; rfl) | refine stp ?_ | refine bk_o rfl ?_ | refine c_true ⟨rfl, rfl⟩ ?_ | refine c_false ⟨rfl, rfl⟩ ?_ | (apply l_rdg; rfl; rfl; rfl; exact rd_go; rfl) | refine l_skip rfl rfl rfl rfl ?_ | (apply q_rdg; rfl; rfl; rfl; exact rd_go; rfl) | refine q_skip rfl rfl rfl rfl ?_ | refine c_draw H (by kernel_rfl) ?_ | (refine q_end ?_; clear H; intro _ H) | ((first | refine l_st (z_box H ?_) | refine l_st (s_alloc H rfl ?_)); clear H; intro _ _ _ H) | (refine l_st (t_build0 H rfl ?_); clear H; intro _ _ _ _ H) | (refine l_st (z_sto H ?_); clear H; intro _ H) | ((first | refine c_cond ⟨rfl, rfl⟩ ?_ ?_ | refine c_ncond ⟨rfl, rfl⟩ ?_ ?_ | refine l_split rfl rfl ?_ ?_ | refine q_split rfl rfl ?_ ?_ | refine l_nsplit rfl rfl ?_ ?_ | refine q_nsplit rfl rfl ?_ ?_) <;> intro _ <;> try (exfalso; omega)))
  all_goals (refine ret1 H rfl rfl rfl ?_; refine bv ?_; rw [Bool.eq_iff_iff]; simp; try omega)
theorem set1_any (a b : Int) (w : World) (h1 : 0 ≤ a ∧ a < 18446744073709551616) (h2 : 0 ≤ b ∧ b < 18446744073709551616) :
    Ret Tryd.prog 155 [.int .u64 a, .int .u64 b] w fun v _ => v = .int .u64 ((a.toNat ||| b.toNat : Nat) : Int) := by
  refine enter (M := fun _ => False) (F := []) Tryd.func155 rfl rfl rfl (by simp) fun H => ?_
  repeat' (first | (apply l_rd; exact rd_go; rfl) | (apply q_rd; exact rd_go; rfl) | refine stp ?_ | refine bk_o rfl ?_ | refine c_true ⟨rfl, rfl⟩ ?_ | refine c_false ⟨rfl, rfl⟩ ?_ | (apply l_rdg; rfl; rfl; rfl; exact rd_go; rfl) | refine l_skip rfl rfl rfl rfl ?_ | (apply q_rdg; rfl; rfl; rfl; exact rd_go; rfl) | refine q_skip rfl rfl rfl rfl ?_ | refine c_draw H (by kernel_rfl) ?_ | (refine q_end ?_; clear H; intro _ H) | ((first | refine l_st (z_box H ?_) | refine l_st (s_alloc H rfl ?_)); clear H; intro _ _ _ H) | (refine l_st (t_build0 H rfl ?_); clear H; intro _ _ _ _ H) | (refine l_st (z_sto H ?_); clear H; intro _ H) | ((first | refine c_cond ⟨rfl, rfl⟩ ?_ ?_ | refine c_ncond ⟨rfl, rfl⟩ ?_ ?_ | refine l_split rfl rfl ?_ ?_ | refine q_split rfl rfl ?_ ?_ | refine l_nsplit rfl rfl ?_ ?_ | refine q_nsplit rfl rfl ?_ ?_) <;> intro _ <;> try (exfalso; omega)))
  exact ret1 H rfl rfl rfl rfl
theorem or1_any (a b : Int) (w : World) (h1 : 0 ≤ a ∧ a < 18446744073709551616) (h2 : 0 ≤ b ∧ b < 18446744073709551616) :
    Ret Tryd.prog 126 [.int .u64 a, .int .u64 b] w fun v _ => v = .int .u64 ((a.toNat ||| b.toNat : Nat) : Int) := by
  refine enter (M := fun _ => False) (F := []) Tryd.func126 rfl rfl rfl (by simp) fun H => ?_
  repeat' (first | (apply l_rd; exact rd_go; rfl) | (apply q_rd; exact rd_go; rfl) | refine stp ?_ | refine bk_o rfl ?_ | refine c_true ⟨rfl, rfl⟩ ?_ | refine c_false ⟨rfl, rfl⟩ ?_ | (apply l_rdg; rfl; rfl; rfl; exact rd_go; rfl) | refine l_skip rfl rfl rfl rfl ?_ | (apply q_rdg; rfl; rfl; rfl; exact rd_go; rfl) | refine q_skip rfl rfl rfl rfl ?_ | refine c_draw H (by kernel_rfl) ?_ | (refine q_end ?_; clear H; intro _ H) | ((first | refine l_st (z_box H ?_) | refine l_st (s_alloc H rfl ?_)); clear H; intro _ _ _ H) | (refine l_st (t_build0 H rfl ?_); clear H; intro _ _ _ _ H) | (refine l_st (z_sto H ?_); clear H; intro _ H) | ((first | refine c_cond ⟨rfl, rfl⟩ ?_ ?_ | refine c_ncond ⟨rfl, rfl⟩ ?_ ?_ | refine l_split rfl rfl ?_ ?_ | refine q_split rfl rfl ?_ ?_ | refine l_nsplit rfl rfl ?_ ?_ | refine q_nsplit rfl rfl ?_ ?_) <;> intro _ <;> try (exfalso; omega)))
  exact ret1 H rfl rfl rfl rfl
theorem mask_any (i a b : Int) (w : World) (h1 : 0 ≤ i ∧ i ≤ 64) (h2 : 0 ≤ a) (h3 : a ≤ b) (h4 : b ≤ 4096) :
    Ret Tryd.prog 133 [.int .i64 i, .int .i64 a, .int .i64 b] w fun v _ => ∃ m : Nat, v = .int .u64 m ∧ m < 2 ^ 64 ∧ ∀ j, j < 64 → (m.testBit j = true ↔ a ≤ 64 * i + j ∧ 64 * i + j < b) := by
  refine enter (M := fun _ => False) (F := []) Tryd.func133 rfl rfl rfl (by simp) fun H => ?_
  repeat' (first | (apply l_rd; exact rd_go; rfl) | (apply q_rd; exact rd_go; rfl) | refine stp ?_ | refine bk_o rfl ?_ | refine c_true ⟨rfl, rfl⟩ ?_ | refine c_false ⟨rfl, rfl⟩ ?_ | (apply l_rdg; rfl; rfl; rfl; exact rd_go; rfl) | refine l_skip rfl rfl rfl rfl ?_ | (apply q_rdg; rfl; rfl; rfl; exact rd_go; rfl) | refine q_skip rfl rfl rfl rfl ?_ | refine c_draw H (by kernel_rfl) ?_ | (refine q_end ?_; clear H; intro _ H) | ((first | refine l_st (z_box H ?_) | refine l_st (s_alloc H rfl ?_)); clear H; intro _ _ _ H) | (refine l_st (t_build0 H rfl ?_); clear H; intro _ _ _ _ H) | (refine l_st (z_sto H ?_); clear H; intro _ H) | ((first | refine c_cond ⟨rfl, rfl⟩ ?_ ?_ | refine c_ncond ⟨rfl, rfl⟩ ?_ ?_ | refine l_split rfl rfl ?_ ?_ | refine q_split rfl rfl ?_ ?_ | refine l_nsplit rfl rfl ?_ ?_ | refine q_nsplit rfl rfl ?_ ?_) <;> intro _ <;> try (exfalso; omega)))
  · exact ret1 H rfl rfl rfl ⟨0, rfl, by decide, fun j hj => by rw [Nat.zero_testBit]; exact ⟨fun h => (by cases h), fun h => (by omega)⟩⟩
  · rename_i hlt
    refine ret1 H rfl rfl rfl ⟨_, rfl, Nat.mod_lt _ (by decide), fun j hj => ?_⟩
    have e1 : (64 - (min (b - i * 64) 64 - max (a - i * 64) 0)).toNat = 64 - (min (b - i * 64) 64 - max (a - i * 64) 0).toNat := by omega
    have := mask_bits (f := (max (a - i * 64) 0).toNat) (n := (min (b - i * 64) 64 - max (a - i * 64) 0).toNat) (by omega) j hj
    rw [e1]
    refine Iff.trans (b := _ = true) (by exact Iff.rfl) ?_
    rw [show (Int.toNat 18446744073709551615) = 2 ^ 64 - 1 from rfl, Int.toNat_natCast, show (18446744073709551616 : Nat) = 2 ^ 64 from rfl, this, decide_eq_true_iff]
    omega
end Go.Proofs.YtiolpldihoghiaaDoor

namespace Go.Proofs.YtiolpldihoghiaaDoor
open Go.RowKit
set_option linter.unusedVariables false
set_option linter.unusedSimpArgs false
set_option maxHeartbeats 4000000
theorem ca_Bm3 {k : FuncId} {vs : List Value} {w1 : World} {v : Value} (h : Ret Tryd.prog k vs w1 (fun u _ => u = v) := by first | exact words_any _ _ (by omega) (by omega)) : Ret Tryd.prog k vs w1 (fun u _ => u = v) := h
/-- A bitmap and a number are handed back, the words new. -/
def BmRet (M : Nat → Prop) (w : World) (p : Bm × Int) (v : Value) (w' : World) : Prop :=
  ∃ vs, v = .tuple #[.agg #[.int .i64 p.1.size, vs], .int .i64 p.2] ∧ Fresh (kInt .u64) 151 1 M w p.1.words vs w'
theorem bm_ret {w0 w : World} {M : Nat → Prop} {L : List Loc} {O : List Own} {F : List (World → Prop)} {v : Value} {p : Bm × Int} {e sz : Int} {ws : List Int} {j : Nat} (H : Hp w0 M w L O F) (hO : O[j]? = some ⟨v, 151, 1, ws.length, ws.map (Value.int .u64)⟩)
    (hr : ∀ x ∈ ws, rng .u64 x) (hp : p = (⟨sz, ws⟩, e)) : BmRet M w0 p (.tuple #[.agg [.int .i64 sz, v].toArray, .int .i64 e]) w := by
  subst hp
  exact ⟨v, rfl, (H.add (Stab.imp (Stab.pure hr) fun w' h => chunks_ints h)).fresh (j := j) hO (List.mem_cons_self ..) rfl⟩
theorem bm_ret0 {w0 w : World} {M : Nat → Prop} {L : List Loc} {O : List Own} {F : List (World → Prop)} {p : Bm × Int} {e : Int} (H : Hp w0 M w L O F) (hp : p = (noBm, e)) :
    BmRet M w0 p (.tuple #[.agg [.int .i64 0, .slice none 0 0].toArray, .int .i64 e]) w := by
  subst hp
  exact ⟨_, rfl, H.fresh_nil⟩
theorem new_any (M : Nat → Prop) (n : Int) (w : World) (h : rng .i64 n) : Ret Tryd.prog 123 [.int .i64 n] w (BmRet M w (newBm n)) := by
  simp only [rng] at h
  refine enter (M := M) (F := []) Tryd.func123 rfl rfl rfl (by simp) fun H => ?_
  repeat' (first | (apply l_rd; exact rd_go; rfl) | (apply q_rd; exact rd_go; rfl) | refine stp ?_ | refine bk_o rfl ?_ | refine c_true ⟨rfl, rfl⟩ ?_ | refine c_false ⟨rfl, rfl⟩ ?_ | (apply l_rdg; rfl; rfl; rfl; exact rd_go; rfl) | refine l_skip rfl rfl rfl rfl ?_ | (apply q_rdg; rfl; rfl; rfl; exact rd_go; rfl) | refine q_skip rfl rfl rfl rfl ?_ | refine c_draw H (by kernel_rfl) ?_ | (refine q_end ?_; clear H; intro _ H) | ((first | refine l_st (z_box H ?_) | refine l_st (s_alloc H rfl ?_)); clear H; intro _ _ _ H) | (refine l_st (t_build0 H rfl ?_); clear H; intro _ _ _ _ H) | (refine l_st (z_sto H ?_); clear H; intro _ H) | ((first | refine c_cond ⟨rfl, rfl⟩ ?_ ?_ | refine c_ncond ⟨rfl, rfl⟩ ?_ ?_ | refine l_split rfl rfl ?_ ?_ | refine q_split rfl rfl ?_ ?_ | refine l_nsplit rfl rfl ?_ ?_ | refine q_nsplit rfl rfl ?_ ?_) <;> intro _ <;> try (exfalso; omega)) | (refine l_st (k_call1 evs_auto H ca_Bm3 rfl ?_); clear H; intro _ _ H) | (refine l_st (k_callg1 evs_auto rfl rfl rfl H ca_Bm3 rfl ?_); clear H; intro _ _ H) | refine kq_call1 evs_auto H (fun _ H => ca_Bm3) rfl ?_ | refine kq_callg1 evs_auto rfl rfl rfl H (fun _ H => ca_Bm3) rfl ?_)
  · refine retct (i := 0) H rfl rfl rfl rfl rfl rfl rfl (bm_ret0 H ?_); unfold newBm; rw [if_neg (by omega)]
  · refine retct (i := 0) H rfl rfl rfl rfl rfl rfl rfl (bm_ret0 H ?_); unfold newBm; rw [if_neg (by omega)]
  · refine l_st (t_make (n := ((n + 63) / 64).toNat) H ⟨rfl, rfl⟩ ⟨rfl, rfl⟩ (by omega) (by omega) rfl ?_)
    clear H; intro _ _ _ _ H
    repeat' (first | (apply l_rd; exact rd_go; rfl) | (apply q_rd; exact rd_go; rfl) | refine stp ?_ | refine bk_o rfl ?_ | refine c_true ⟨rfl, rfl⟩ ?_ | refine c_false ⟨rfl, rfl⟩ ?_ | (apply l_rdg; rfl; rfl; rfl; exact rd_go; rfl) | refine l_skip rfl rfl rfl rfl ?_ | (apply q_rdg; rfl; rfl; rfl; exact rd_go; rfl) | refine q_skip rfl rfl rfl rfl ?_ | refine c_draw H (by kernel_rfl) ?_ | (refine q_end ?_; clear H; intro _ H) | ((first | refine l_st (z_box H ?_) | refine l_st (s_alloc H rfl ?_)); clear H; intro _ _ _ H) | (refine l_st (t_build0 H rfl ?_); clear H; intro _ _ _ _ H) | (refine l_st (z_sto H ?_); clear H; intro _ H) | ((first | refine c_cond ⟨rfl, rfl⟩ ?_ ?_ | refine c_ncond ⟨rfl, rfl⟩ ?_ ?_ | refine l_split rfl rfl ?_ ?_ | refine q_split rfl rfl ?_ ?_ | refine l_nsplit rfl rfl ?_ ?_ | refine q_nsplit rfl rfl ?_ ?_) <;> intro _ <;> try (exfalso; omega)) | (refine l_st (k_call1 evs_auto H ca_Bm3 rfl ?_); clear H; intro _ _ H) | (refine l_st (k_callg1 evs_auto rfl rfl rfl H ca_Bm3 rfl ?_); clear H; intro _ _ H) | refine kq_call1 evs_auto H (fun _ H => ca_Bm3) rfl ?_ | refine kq_callg1 evs_auto rfl rfl rfl H (fun _ H => ca_Bm3) rfl ?_)
    refine retct (i := 0) H rfl rfl rfl rfl rfl rfl rfl ?_
    refine bm_ret (j := 0) (ws := List.replicate ((n + 63) / 64).toNat 0) H ?_ (fun x hx => ?_) ?_
    · simp
    · rw [(List.mem_replicate.1 hx).2]; simp only [rng]; omega
    · unfold newBm; rw [if_pos (by omega), wordsOf_false]
theorem rNew_any (M : Nat → Prop) (n : Int) (w : World) (h : rng .i64 n) : Ret Tryd.prog 65 [.int .i64 n] w (BmRet M w (newBm n)) := by
  simp only [rng] at h
  refine enter (M := M) (F := []) Tryd.func65 rfl rfl rfl (by simp) fun H => ?_
  repeat' (first | (apply l_rd; exact rd_go; rfl) | (apply q_rd; exact rd_go; rfl) | refine stp ?_ | refine bk_o rfl ?_ | refine c_true ⟨rfl, rfl⟩ ?_ | refine c_false ⟨rfl, rfl⟩ ?_ | (apply l_rdg; rfl; rfl; rfl; exact rd_go; rfl) | refine l_skip rfl rfl rfl rfl ?_ | (apply q_rdg; rfl; rfl; rfl; exact rd_go; rfl) | refine q_skip rfl rfl rfl rfl ?_ | refine c_draw H (by kernel_rfl) ?_ | (refine q_end ?_; clear H; intro _ H) | ((first | refine l_st (z_box H ?_) | refine l_st (s_alloc H rfl ?_)); clear H; intro _ _ _ H) | (refine l_st (t_build0 H rfl ?_); clear H; intro _ _ _ _ H) | (refine l_st (z_sto H ?_); clear H; intro _ H) | ((first | refine c_cond ⟨rfl, rfl⟩ ?_ ?_ | refine c_ncond ⟨rfl, rfl⟩ ?_ ?_ | refine l_split rfl rfl ?_ ?_ | refine q_split rfl rfl ?_ ?_ | refine l_nsplit rfl rfl ?_ ?_ | refine q_nsplit rfl rfl ?_ ?_) <;> intro _ <;> try (exfalso; omega)) | (refine l_st (k_call1 evs_auto H ca_Bm3 rfl ?_); clear H; intro _ _ H) | (refine l_st (k_callg1 evs_auto rfl rfl rfl H ca_Bm3 rfl ?_); clear H; intro _ _ H) | refine kq_call1 evs_auto H (fun _ H => ca_Bm3) rfl ?_ | refine kq_callg1 evs_auto rfl rfl rfl H (fun _ H => ca_Bm3) rfl ?_)
  · refine retct (i := 0) H rfl rfl rfl rfl rfl rfl rfl (bm_ret0 H ?_); unfold newBm; rw [if_neg (by omega)]
  · refine retct (i := 0) H rfl rfl rfl rfl rfl rfl rfl (bm_ret0 H ?_); unfold newBm; rw [if_neg (by omega)]
  · refine l_st (t_make (n := ((n + 63) / 64).toNat) H ⟨rfl, rfl⟩ ⟨rfl, rfl⟩ (by omega) (by omega) rfl ?_)
    clear H; intro _ _ _ _ H
    repeat' (first | (apply l_rd; exact rd_go; rfl) | (apply q_rd; exact rd_go; rfl) | refine stp ?_ | refine bk_o rfl ?_ | refine c_true ⟨rfl, rfl⟩ ?_ | refine c_false ⟨rfl, rfl⟩ ?_ | (apply l_rdg; rfl; rfl; rfl; exact rd_go; rfl) | refine l_skip rfl rfl rfl rfl ?_ | (apply q_rdg; rfl; rfl; rfl; exact rd_go; rfl) | refine q_skip rfl rfl rfl rfl ?_ | refine c_draw H (by kernel_rfl) ?_ | (refine q_end ?_; clear H; intro _ H) | ((first | refine l_st (z_box H ?_) | refine l_st (s_alloc H rfl ?_)); clear H; intro _ _ _ H) | (refine l_st (t_build0 H rfl ?_); clear H; intro _ _ _ _ H) | (refine l_st (z_sto H ?_); clear H; intro _ H) | ((first | refine c_cond ⟨rfl, rfl⟩ ?_ ?_ | refine c_ncond ⟨rfl, rfl⟩ ?_ ?_ | refine l_split rfl rfl ?_ ?_ | refine q_split rfl rfl ?_ ?_ | refine l_nsplit rfl rfl ?_ ?_ | refine q_nsplit rfl rfl ?_ ?_) <;> intro _ <;> try (exfalso; omega)) | (refine l_st (k_call1 evs_auto H ca_Bm3 rfl ?_); clear H; intro _ _ H) | (refine l_st (k_callg1 evs_auto rfl rfl rfl H ca_Bm3 rfl ?_); clear H; intro _ _ H) | refine kq_call1 evs_auto H (fun _ H => ca_Bm3) rfl ?_ | refine kq_callg1 evs_auto rfl rfl rfl H (fun _ H => ca_Bm3) rfl ?_)
    refine retct (i := 0) H rfl rfl rfl rfl rfl rfl rfl ?_
    refine bm_ret (j := 0) (ws := List.replicate ((n + 63) / 64).toNat 0) H ?_ (fun x hx => ?_) ?_
    · simp
    · rw [(List.mem_replicate.1 hx).2]; simp only [rng]; omega
    · unfold newBm; rw [if_pos (by omega), wordsOf_false]
theorem rCopy_any (M : Nat → Prop) (b : Bm) (A : Option Addr) (c : Nat) (w : World) (hl : b.words.length ≤ 100000) (hF : Stab w M (Row (kInt .u64) 1 A b.words)) :
    Ret Tryd.prog 129 [.agg [.int .i64 b.size, .slice A b.words.length c].toArray] w fun v w' => ∃ vs, v = .agg #[.int .i64 b.size, vs] ∧ Fresh (kInt .u64) 151 1 M w b.words vs w' := by
  refine enter (M := M) (F := [Row (kInt .u64) 1 A b.words]) Tryd.func129 rfl rfl rfl (by simpa using hF) fun H => ?_
  repeat' (first | (apply l_rd; exact rd_go; rfl) | (apply q_rd; exact rd_go; rfl) | refine stp ?_ | refine bk_o rfl ?_ | refine c_true ⟨rfl, rfl⟩ ?_ | refine c_false ⟨rfl, rfl⟩ ?_ | (apply l_rdg; rfl; rfl; rfl; exact rd_go; rfl) | refine l_skip rfl rfl rfl rfl ?_ | (apply q_rdg; rfl; rfl; rfl; exact rd_go; rfl) | refine q_skip rfl rfl rfl rfl ?_ | (refine q_end ?_; clear H; intro _ H) | ((first | refine l_st (z_box H ?_) | refine l_st (s_alloc H rfl ?_)); clear H; intro _ _ _ H) | (refine l_st (t_build0 H rfl ?_); clear H; intro _ _ _ _ H) | (refine l_st (z_sto H ?_); clear H; intro _ H) | ((first | refine c_cond ⟨rfl, rfl⟩ ?_ ?_ | refine c_ncond ⟨rfl, rfl⟩ ?_ ?_ | refine l_split rfl rfl ?_ ?_ | refine q_split rfl rfl ?_ ?_ | refine l_nsplit rfl rfl ?_ ?_ | refine q_nsplit rfl rfl ?_ ?_) <;> intro _ <;> try (exfalso; omega)) | (refine l_st (k_call1 evs_auto H ca_Bm3 rfl ?_); clear H; intro _ _ H) | (refine l_st (k_callg1 evs_auto rfl rfl rfl H ca_Bm3 rfl ?_); clear H; intro _ _ H) | refine kq_call1 evs_auto H (fun _ H => ca_Bm3) rfl ?_ | refine kq_callg1 evs_auto rfl rfl rfl H (fun _ H => ca_Bm3) rfl ?_)
  refine c_mix H [7] ?_
  clear H; intro w1 H
  (apply m_rd (i := 0) rfl (by decide +kernel) (by first | exact Below.refl _ _ | assumption); exact rd_go; rfl); (apply m_rd (i := 1) rfl (by decide +kernel) (by first | exact Below.refl _ _ | assumption); exact rd_go; rfl); (apply m_rd (i := 3) rfl (by decide +kernel) (by first | exact Below.refl _ _ | assumption); exact rd_go; rfl); (apply m_rd (i := 4) rfl (by decide +kernel) (by first | exact Below.refl _ _ | assumption); exact rd_go; rfl)
  refine m_one (i := 2) (by kernel_rfl) rfl (t_build0m H rfl ?_)
  intro A1 c1 w2 hb1 hge H2
  refine ⟨fun _ => hb1, m_one (i := 5) (by kernel_rfl) rfl (t_append_row (j := 0) H2 rfl ⟨rfl, rfl⟩ ⟨rfl, rfl⟩ mem_auto (by omega) rfl ?_)⟩
  intro A2 c2 w3 news hG hn H3
  have hb2 := hG.below _ _ hb1.size hb1 hge
  refine ⟨fun _ => hb2, ?_⟩
  (apply m_rd (i := 6) rfl (by decide +kernel) (by first | exact Below.refl _ _ | assumption); exact rd_go; rfl)
  refine m_one (i := 7) (by kernel_rfl) rfl (s_storea (i := 0) H3 ⟨rfl, rfl⟩ rfl ⟨rfl, rfl⟩ rfl rfl rfl ?_)
  intro w4 H
  refine ⟨fun h => (by cases h), m_end (by kernel_rfl) ?_⟩
  repeat' (first | (apply l_rd; exact rd_go; rfl) | (apply q_rd; exact rd_go; rfl) | refine stp ?_ | refine bk_o rfl ?_ | refine c_true ⟨rfl, rfl⟩ ?_ | refine c_false ⟨rfl, rfl⟩ ?_ | (apply l_rdg; rfl; rfl; rfl; exact rd_go; rfl) | refine l_skip rfl rfl rfl rfl ?_ | (apply q_rdg; rfl; rfl; rfl; exact rd_go; rfl) | refine q_skip rfl rfl rfl rfl ?_ | refine c_draw H (by kernel_rfl) ?_ | (refine q_end ?_; clear H; intro _ H) | ((first | refine l_st (z_box H ?_) | refine l_st (s_alloc H rfl ?_)); clear H; intro _ _ _ H) | (refine l_st (t_build0 H rfl ?_); clear H; intro _ _ _ _ H) | (refine l_st (z_sto H ?_); clear H; intro _ H) | ((first | refine c_cond ⟨rfl, rfl⟩ ?_ ?_ | refine c_ncond ⟨rfl, rfl⟩ ?_ ?_ | refine l_split rfl rfl ?_ ?_ | refine q_split rfl rfl ?_ ?_ | refine l_nsplit rfl rfl ?_ ?_ | refine q_nsplit rfl rfl ?_ ?_) <;> intro _ <;> try (exfalso; omega)) | (refine l_st (k_call1 evs_auto H ca_Bm3 rfl ?_); clear H; intro _ _ H) | (refine l_st (k_callg1 evs_auto rfl rfl rfl H ca_Bm3 rfl ?_); clear H; intro _ _ H) | refine kq_call1 evs_auto H (fun _ H => ca_Bm3) rfl ?_ | refine kq_callg1 evs_auto rfl rfl rfl H (fun _ H => ca_Bm3) rfl ?_)
  exact retc (i := 0) H rfl rfl rfl rfl rfl ⟨_, rfl, H.fresh (j := 0) rfl (List.mem_cons_self ..) (Nat.zero_add _)⟩
end Go.Proofs.YtiolpldihoghiaaDoor

namespace Go.Proofs.YtiolpldihoghiaaDoor
open Go.RowKit
set_option linter.unusedVariables false
set_option linter.unusedSimpArgs false
set_option maxHeartbeats 4000000
theorem ca_Bm4 {k : FuncId} {vs : List Value} {w1 : World} {v : Value} (h : Ret Tryd.prog k vs w1 (fun u _ => u = v) := by first | exact bCheck_any _ _ _ _ _ (by assumption) (H.fact _ mem_auto) | exact fits_any _ _ _ _ (by assumption) (by assumption) (by omega)) : Ret Tryd.prog k vs w1 (fun u _ => u = v) := h
theorem Bm.fine_len {b : Bm} (h : b.err = 0) : 0 ≤ b.size ∧ b.size ≤ 4096 ∧ (b.words.length : Int) = (b.size + 63) / 64 := by
  have := Bm.err_zero h; exact ⟨this.1, this.2.1, this.2.2.1⟩
theorem apply_any (M : Nat → Prop) (b : Bm) (A : Option Addr) (c : Nat) (e : Ext) (w : World) (hs : rng .i64 b.size) (h1 : rng .i64 e.start) (h2 : rng .i64 e.count) (hF : Stab w M (Row (kInt .u64) 1 A b.words)) :
    Ret Tryd.prog 156 [.agg [.func (.func 155) #[] #[]].toArray, .agg [.int .i64 b.size, .slice A b.words.length c].toArray, .agg [.int .i64 e.start, .int .i64 e.count].toArray] w (BmRet M w (setBm b e)) := by
  have hr := rng_row hF
  refine enter (M := M) (F := [Row (kInt .u64) 1 A b.words]) Tryd.func156 rfl rfl rfl (by simpa using hF) fun H => ?_
  repeat' (first | (apply l_rd; exact rd_go; rfl) | (apply q_rd; exact rd_go; rfl) | refine stp ?_ | refine bk_o rfl ?_ | refine c_true ⟨rfl, rfl⟩ ?_ | refine c_false ⟨rfl, rfl⟩ ?_ | (apply l_rdg; rfl; rfl; rfl; exact rd_go; rfl) | refine l_skip rfl rfl rfl rfl ?_ | (apply q_rdg; rfl; rfl; rfl; exact rd_go; rfl) | refine q_skip rfl rfl rfl rfl ?_ | (refine q_end ?_; clear H; intro _ H) | ((first | refine l_st (z_box H ?_) | refine l_st (s_alloc H rfl ?_)); clear H; intro _ _ _ H) | (refine l_st (t_build0 H rfl ?_); clear H; intro _ _ _ _ H) | (refine l_st (z_sto H ?_); clear H; intro _ H) | ((first | refine c_cond ⟨rfl, rfl⟩ ?_ ?_ | refine c_ncond ⟨rfl, rfl⟩ ?_ ?_ | refine l_split rfl rfl ?_ ?_ | refine q_split rfl rfl ?_ ?_ | refine l_nsplit rfl rfl ?_ ?_ | refine q_nsplit rfl rfl ?_ ?_) <;> intro _ <;> try (exfalso; omega)) | (refine l_st (k_call1 evs_auto H ca_Bm4 rfl ?_); clear H; intro _ _ H) | (refine l_st (k_callg1 evs_auto rfl rfl rfl H ca_Bm4 rfl ?_); clear H; intro _ _ H) | refine kq_call1 evs_auto H (fun _ H => ca_Bm4) rfl ?_ | refine kq_callg1 evs_auto rfl rfl rfl H (fun _ H => ca_Bm4) rfl ?_)
  · have h : b.err ≠ 0 := by assumption
    rw [Bm.err_ne h]
    refine retct (i := 0) H rfl rfl rfl rfl rfl rfl rfl (bm_ret0 H ?_); unfold setBm; rw [if_pos h]
  have h : ¬ b.err ≠ 0 := by assumption
  obtain ⟨h3, h4, h5⟩ := Bm.fine_len (b := b) (by omega)
  repeat' (first | (apply l_rd; exact rd_go; rfl) | (apply q_rd; exact rd_go; rfl) | refine stp ?_ | refine bk_o rfl ?_ | refine c_true ⟨rfl, rfl⟩ ?_ | refine c_false ⟨rfl, rfl⟩ ?_ | (apply l_rdg; rfl; rfl; rfl; exact rd_go; rfl) | refine l_skip rfl rfl rfl rfl ?_ | (apply q_rdg; rfl; rfl; rfl; exact rd_go; rfl) | refine q_skip rfl rfl rfl rfl ?_ | (refine q_end ?_; clear H; intro _ H) | ((first | refine l_st (z_box H ?_) | refine l_st (s_alloc H rfl ?_)); clear H; intro _ _ _ H) | (refine l_st (t_build0 H rfl ?_); clear H; intro _ _ _ _ H) | (refine l_st (z_sto H ?_); clear H; intro _ H) | ((first | refine c_cond ⟨rfl, rfl⟩ ?_ ?_ | refine c_ncond ⟨rfl, rfl⟩ ?_ ?_ | refine l_split rfl rfl ?_ ?_ | refine q_split rfl rfl ?_ ?_ | refine l_nsplit rfl rfl ?_ ?_ | refine q_nsplit rfl rfl ?_ ?_) <;> intro _ <;> try (exfalso; omega)) | (refine l_st (k_call1 evs_auto H ca_Bm4 rfl ?_); clear H; intro _ _ H) | (refine l_st (k_callg1 evs_auto rfl rfl rfl H ca_Bm4 rfl ?_); clear H; intro _ _ H) | refine kq_call1 evs_auto H (fun _ H => ca_Bm4) rfl ?_ | refine kq_callg1 evs_auto rfl rfl rfl H (fun _ H => ca_Bm4) rfl ?_)
  · have h' : ¬ (0 ≤ e.start ∧ 0 ≤ e.count ∧ e.start ≤ b.size ∧ e.count ≤ b.size - e.start) := by assumption
    refine retct (i := 0) H rfl rfl rfl rfl rfl rfl rfl (bm_ret0 H ?_); unfold setBm; rw [if_neg h]; exact if_pos h'
  have hf : e.fits b.size := by assumption
  obtain ⟨f1, f2, f3, f4⟩ := id hf
  refine l_st (k_call evs_auto H (clone64 _ _ _ _ _ (by omega) (H.fact _ mem_auto)) rfl ?_)
  intro v w1 hfr hb1 _
  obtain ⟨A1, c1, cs, rfl, _, _, H1⟩ := H.take' hb1 hfr
  clear H hb1 hfr
  obtain rfl := chunks_int (H1.fact _ (List.mem_cons_self ..)).now
  have H := H1
  clear H1
  repeat' (first | (apply l_rd; exact rd_go; rfl) | (apply q_rd; exact rd_go; rfl) | refine stp ?_ | refine bk_o rfl ?_ | refine c_true ⟨rfl, rfl⟩ ?_ | refine c_false ⟨rfl, rfl⟩ ?_ | (apply l_rdg; rfl; rfl; rfl; exact rd_go; rfl) | refine l_skip rfl rfl rfl rfl ?_ | (apply q_rdg; rfl; rfl; rfl; exact rd_go; rfl) | refine q_skip rfl rfl rfl rfl ?_ | (refine q_end ?_; clear H; intro _ H) | ((first | refine l_st (z_box H ?_) | refine l_st (s_alloc H rfl ?_)); clear H; intro _ _ _ H) | (refine l_st (t_build0 H rfl ?_); clear H; intro _ _ _ _ H) | (refine l_st (z_sto H ?_); clear H; intro _ H) | ((first | refine c_cond ⟨rfl, rfl⟩ ?_ ?_ | refine c_ncond ⟨rfl, rfl⟩ ?_ ?_ | refine l_split rfl rfl ?_ ?_ | refine q_split rfl rfl ?_ ?_ | refine l_nsplit rfl rfl ?_ ?_ | refine q_nsplit rfl rfl ?_ ?_) <;> intro _ <;> try (exfalso; omega)) | (refine l_st (k_call1 evs_auto H ca_Bm4 rfl ?_); clear H; intro _ _ H) | (refine l_st (k_callg1 evs_auto rfl rfl rfl H ca_Bm4 rfl ?_); clear H; intro _ _ H) | refine kq_call1 evs_auto H (fun _ H => ca_Bm4) rfl ?_ | refine kq_callg1 evs_auto rfl rfl rfl H (fun _ H => ca_Bm4) rfl ?_)
  refine c_loopk [28] [3, 4, 5, 6, 9, 27] (fun n vs w' => ∃ (i : Nat) (cur : List Int), vs = [.int .i64 i] ∧ i ≤ b.words.length ∧ n = b.words.length - i ∧ cur.length = b.words.length ∧ (∀ x ∈ cur, rng .u64 x) ∧
      (∀ j, j < 64 * i → bitOf cur j = (bitOf b.words j || inExt e j)) ∧ (∀ j, 64 * i ≤ j → bitOf cur j = bitOf b.words j) ∧ Hp w M w' _ [⟨.slice A1 b.words.length c1, 151, 1, b.words.length, cur.map (Value.int .u64)⟩] _) _ [_, _, _, _, _, _] rfl
      ⟨0, b.words, rfl, Nat.zero_le _, rfl, rfl, hr, fun j h => by omega, fun j _ => rfl, H⟩ ?_
  clear H
  rintro n _ E0 w2 ⟨i, cur, rfl, hi, rfl, hcl, hcr, hb1, hb2, H⟩
  repeat' (first | (apply l_rd; exact rd_go; rfl) | (apply q_rd; exact rd_go; rfl) | refine stp ?_ | refine bk_o rfl ?_ | refine c_true ⟨rfl, rfl⟩ ?_ | refine c_false ⟨rfl, rfl⟩ ?_ | (apply l_rdg; rfl; rfl; rfl; exact rd_go; rfl) | refine l_skip rfl rfl rfl rfl ?_ | (apply q_rdg; rfl; rfl; rfl; exact rd_go; rfl) | refine q_skip rfl rfl rfl rfl ?_ | (refine q_end ?_; clear H; intro _ H) | ((first | refine l_st (z_box H ?_) | refine l_st (s_alloc H rfl ?_)); clear H; intro _ _ _ H) | (refine l_st (t_build0 H rfl ?_); clear H; intro _ _ _ _ H) | (refine l_st (z_sto H ?_); clear H; intro _ H) | ((first | refine c_cond ⟨rfl, rfl⟩ ?_ ?_ | refine c_ncond ⟨rfl, rfl⟩ ?_ ?_ | refine l_split rfl rfl ?_ ?_ | refine q_split rfl rfl ?_ ?_ | refine l_nsplit rfl rfl ?_ ?_ | refine q_nsplit rfl rfl ?_ ?_) <;> intro _ <;> try (exfalso; omega)) | (refine l_st (k_call1 evs_auto H ca_Bm4 rfl ?_); clear H; intro _ _ H) | (refine l_st (k_callg1 evs_auto rfl rfl rfl H ca_Bm4 rfl ?_); clear H; intro _ _ H) | refine kq_call1 evs_auto H (fun _ H => ca_Bm4) rfl ?_ | refine kq_callg1 evs_auto rfl rfl rfl H (fun _ H => ca_Bm4) rfl ?_)
  · refine c_mix H [19] ?_
    clear H; intro w3 H
    (apply m_rd (i := 0) rfl (by decide +kernel) (by first | exact Below.refl _ _ | assumption); exact rd_go; rfl); (apply m_rd (i := 1) rfl (by decide +kernel) (by first | exact Below.refl _ _ | assumption); exact rd_go; rfl); (apply m_rd (i := 2) rfl (by decide +kernel) (by first | exact Below.refl _ _ | assumption); exact rd_go; rfl); (apply m_rd (i := 3) rfl (by decide +kernel) (by first | exact Below.refl _ _ | assumption); exact rd_go; rfl); (apply m_rd (i := 4) rfl (by decide +kernel) (by first | exact Below.refl _ _ | assumption); exact rd_go; rfl); (apply m_rd (i := 5) rfl (by decide +kernel) (by first | exact Below.refl _ _ | assumption); exact rd_go; rfl); (apply m_rd (i := 6) rfl (by decide +kernel) (by first | exact Below.refl _ _ | assumption); exact rd_go; rfl); (apply m_rd (i := 7) rfl (by decide +kernel) (by first | exact Below.refl _ _ | assumption); exact rd_go; rfl); (apply m_rd (i := 8) rfl (by decide +kernel) (by first | exact Below.refl _ _ | assumption); exact rd_go; rfl); (apply m_rd (i := 9) rfl (by decide +kernel) (by first | exact Below.refl _ _ | assumption); exact rd_go; rfl); (apply m_rd (i := 10) rfl (by decide +kernel) (by first | exact Below.refl _ _ | assumption); exact rd_go; rfl); (apply m_rd (i := 11) rfl (by decide +kernel) (by first | exact Below.refl _ _ | assumption); exact rd_go; rfl); (apply m_rd (i := 12) rfl (by decide +kernel) (by first | exact Below.refl _ _ | assumption); exact rd_go; rfl); (apply m_rd (i := 13) rfl (by decide +kernel) (by first | exact Below.refl _ _ | assumption); exact rd_go; rfl); (apply m_rd (i := 14) rfl (by decide +kernel) (by first | exact Below.refl _ _ | assumption); exact rd_go; rfl); (apply m_rd (i := 15) rfl (by decide +kernel) (by first | exact Below.refl _ _ | assumption); exact rd_go; rfl)
    refine m_one (i := 16) (by kernel_rfl) rfl (k_call evs_auto H (mask_any _ _ _ _ (by omega) (by omega) (by omega) (by omega)) rfl ?_)
    rintro _ w4 ⟨m, rfl, hm, hmb⟩ hbl H4
    refine ⟨fun _ => hbl, m_one (i := 17) (by kernel_rfl) rfl (k_callv0 evs_auto ⟨rfl, rfl⟩ H4 (set1_any _ _ _ (u64_at hcr) (by omega)) rfl ?_)⟩
    rintro _ w5 rfl hbl5 H5
    have hbl6 := hbl.trans (hbl5.mono hbl.size)
    refine ⟨fun _ => hbl6, ?_⟩
    (apply m_rd (i := 18) rfl (by decide +kernel) (by first | exact Below.refl _ _ | assumption); exact rd_go; rfl)
    refine m_one (i := 19) (by kernel_rfl) rfl (t_store_int (j := 0) H5 rfl ⟨rfl, rfl⟩ (by omega) ⟨rfl, rfl⟩ ?_)
    intro w6 H6
    refine ⟨fun h => (by cases h), m_end (by kernel_rfl) ?_⟩
    repeat' (first | (apply l_rd; exact rd_go; rfl) | (apply q_rd; exact rd_go; rfl) | refine stp ?_ | refine bk_o rfl ?_ | refine c_true ⟨rfl, rfl⟩ ?_ | refine c_false ⟨rfl, rfl⟩ ?_ | (apply l_rdg; rfl; rfl; rfl; exact rd_go; rfl) | refine l_skip rfl rfl rfl rfl ?_ | (apply q_rdg; rfl; rfl; rfl; exact rd_go; rfl) | refine q_skip rfl rfl rfl rfl ?_ | (refine q_end ?_; clear H; intro _ H) | ((first | refine l_st (z_box H ?_) | refine l_st (s_alloc H rfl ?_)); clear H; intro _ _ _ H) | (refine l_st (t_build0 H rfl ?_); clear H; intro _ _ _ _ H) | (refine l_st (z_sto H ?_); clear H; intro _ H) | ((first | refine c_cond ⟨rfl, rfl⟩ ?_ ?_ | refine c_ncond ⟨rfl, rfl⟩ ?_ ?_ | refine l_split rfl rfl ?_ ?_ | refine q_split rfl rfl ?_ ?_ | refine l_nsplit rfl rfl ?_ ?_ | refine q_nsplit rfl rfl ?_ ?_) <;> intro _ <;> try (exfalso; omega)) | (refine l_st (k_call1 evs_auto H ca_Bm4 rfl ?_); clear H; intro _ _ H) | (refine l_st (k_callg1 evs_auto rfl rfl rfl H ca_Bm4 rfl ?_); clear H; intro _ _ H) | refine kq_call1 evs_auto H (fun _ H => ca_Bm4) rfl ?_ | refine kq_callg1 evs_auto rfl rfl rfl H (fun _ H => ca_Bm4) rfl ?_)
    have hi' : i < cur.length := by omega
    obtain ⟨s1, s2⟩ := step_bits (x := ((cur[i].toNat ||| (m : Int).toNat : Nat) : Int)) hi' hb1 hb2 (fun k hk => by
      rw [or_bit, at_bit hi' hk, hb2 _ (by omega), Int.toNat_natCast]
      congr 1
      rw [Bool.eq_iff_iff, hmb k hk]; simp only [inExt, decide_eq_true_iff]; omega)
    exact lk_n rfl (n' := b.words.length - (i + 1)) (by omega) ⟨i + 1, _, rfl, by omega, rfl, by rw [List.length_set]; exact hcl, set_rng hcr (or_lt (u64_at hcr) (by omega)), s1, s2, H6⟩
  · refine retct (i := 0) H rfl rfl rfl rfl rfl rfl rfl ?_
    have hlen : i = b.words.length := by omega
    refine bm_ret (j := 0) (ws := cur) H (by rw [hcl]; rfl) hcr ?_
    unfold setBm
    rw [if_neg h, if_neg (fun h' => h' hf)]
    rw [words_ext hcl hcr (fun j hj => hb1 j (by omega))]
/-- bitmap.Set. -/
theorem set_any (M : Nat → Prop) (b : Bm) (A : Option Addr) (c : Nat) (e : Ext) (w : World) (hs : rng .i64 b.size) (h1 : rng .i64 e.start) (h2 : rng .i64 e.count) (hF : Stab w M (Row (kInt .u64) 1 A b.words)) :
    Ret Tryd.prog 124 [.agg [.int .i64 b.size, .slice A b.words.length c].toArray, .agg [.int .i64 e.start, .int .i64 e.count].toArray] w (BmRet M w (setBm b e)) := by
  refine enter (M := M) (F := [Row (kInt .u64) 1 A b.words]) Tryd.func124 rfl rfl rfl (by simpa using hF) fun H => ?_
  repeat' (first | (apply l_rd; exact rd_go; rfl) | (apply q_rd; exact rd_go; rfl) | refine stp ?_ | refine bk_o rfl ?_ | refine c_true ⟨rfl, rfl⟩ ?_ | refine c_false ⟨rfl, rfl⟩ ?_ | (apply l_rdg; rfl; rfl; rfl; exact rd_go; rfl) | refine l_skip rfl rfl rfl rfl ?_ | (apply q_rdg; rfl; rfl; rfl; exact rd_go; rfl) | refine q_skip rfl rfl rfl rfl ?_ | refine c_draw H (by kernel_rfl) ?_ | (refine q_end ?_; clear H; intro _ H) | ((first | refine l_st (z_box H ?_) | refine l_st (s_alloc H rfl ?_)); clear H; intro _ _ _ H) | (refine l_st (t_build0 H rfl ?_); clear H; intro _ _ _ _ H) | (refine l_st (z_sto H ?_); clear H; intro _ H) | ((first | refine c_cond ⟨rfl, rfl⟩ ?_ ?_ | refine c_ncond ⟨rfl, rfl⟩ ?_ ?_ | refine l_split rfl rfl ?_ ?_ | refine q_split rfl rfl ?_ ?_ | refine l_nsplit rfl rfl ?_ ?_ | refine q_nsplit rfl rfl ?_ ?_) <;> intro _ <;> try (exfalso; omega)) | (refine l_st (k_call1 evs_auto H ca_Bm4 rfl ?_); clear H; intro _ _ H) | (refine l_st (k_callg1 evs_auto rfl rfl rfl H ca_Bm4 rfl ?_); clear H; intro _ _ H) | refine kq_call1 evs_auto H (fun _ H => ca_Bm4) rfl ?_ | refine kq_callg1 evs_auto rfl rfl rfl H (fun _ H => ca_Bm4) rfl ?_)
  refine l_st (k_call evs_auto H (apply_any _ b A c e _ hs h1 h2 (H.fact _ mem_auto)) rfl ?_)
  rintro _ w1 ⟨vs, rfl, hf⟩ hb H1
  obtain ⟨A1, c1, cs, rfl, _, _, H⟩ := H.take' hb hf
  repeat' (first | (apply l_rd; exact rd_go; rfl) | (apply q_rd; exact rd_go; rfl) | refine stp ?_ | refine bk_o rfl ?_ | refine c_true ⟨rfl, rfl⟩ ?_ | refine c_false ⟨rfl, rfl⟩ ?_ | (apply l_rdg; rfl; rfl; rfl; exact rd_go; rfl) | refine l_skip rfl rfl rfl rfl ?_ | (apply q_rdg; rfl; rfl; rfl; exact rd_go; rfl) | refine q_skip rfl rfl rfl rfl ?_ | refine c_draw H (by kernel_rfl) ?_ | (refine q_end ?_; clear H; intro _ H) | ((first | refine l_st (z_box H ?_) | refine l_st (s_alloc H rfl ?_)); clear H; intro _ _ _ H) | (refine l_st (t_build0 H rfl ?_); clear H; intro _ _ _ _ H) | (refine l_st (z_sto H ?_); clear H; intro _ H) | ((first | refine c_cond ⟨rfl, rfl⟩ ?_ ?_ | refine c_ncond ⟨rfl, rfl⟩ ?_ ?_ | refine l_split rfl rfl ?_ ?_ | refine q_split rfl rfl ?_ ?_ | refine l_nsplit rfl rfl ?_ ?_ | refine q_nsplit rfl rfl ?_ ?_) <;> intro _ <;> try (exfalso; omega)) | (refine l_st (k_call1 evs_auto H ca_Bm4 rfl ?_); clear H; intro _ _ H) | (refine l_st (k_callg1 evs_auto rfl rfl rfl H ca_Bm4 rfl ?_); clear H; intro _ _ H) | refine kq_call1 evs_auto H (fun _ H => ca_Bm4) rfl ?_ | refine kq_callg1 evs_auto rfl rfl rfl H (fun _ H => ca_Bm4) rfl ?_)
  exact retct (i := 0) H rfl rfl rfl rfl rfl rfl rfl ⟨_, rfl, H.fresh (j := 0) rfl (List.mem_cons_self ..) rfl⟩
end Go.Proofs.YtiolpldihoghiaaDoor
