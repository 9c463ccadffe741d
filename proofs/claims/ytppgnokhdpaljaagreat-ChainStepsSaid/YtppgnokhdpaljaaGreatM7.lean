/- Parts of a proof, 24 texts in one file. No condition. -/
import Derived.Test.YtppgnokhdpaljaaGreatM1
import Derived.Test.YtppgnokhdpaljaaGreatM2
import Derived.Test.YtppgnokhdpaljaaGreatM3
import Derived.Test.YtppgnokhdpaljaaGreatM4
import Derived.Test.YtppgnokhdpaljaaGreatM5
import Derived.Test.YtppgnokhdpaljaaGreatM6
set_option linter.unusedSimpArgs false
set_option linter.unusedVariables false
namespace Go.Proofs.YtppgnokhdpaljaaGreat
open Go Go.Kx
theorem more_nil {nx : Int} : ¬ moreB [] nx := fun h => by
 obtain ⟨x, s, -, e, -⟩ := more_ok h
 have := bytesB_pos x
 have h2 := congrArg List.length e
 simp at h2
 omega
theorem Scans.join {nx : Int} {r r' : List UInt8} {bs ms : List Batch} (hok : ∀ x ∈ bs, errB x = 0) (ho : ordB nx bs) (h : Scans (nextB nx bs) r ms r') : Scans nx (allB bs ++ r) (bs ++ ms) r' :=
 ⟨by rw [allB_app, List.append_assoc, ← h.eq], fun x hx => (List.mem_append.1 hx).elim (hok x) (h.ok x), (ordB_app _ _ _).2 ⟨ho, h.ord⟩, by rw [nextB_app]; exact h.stop⟩
theorem ordB_take {nx : Int} {bs : List Batch} (h : ordB nx bs) (k : Nat) : ordB nx (bs.take k) := by
 rw [← List.take_append_drop k bs, ordB_app] at h
 exact h.1
theorem Scans.pre {nx : Int} {q r : List UInt8} {bs : List Batch} (h : Scans nx q bs r) (k : Nat) : Scans nx (allB (bs.take k)) (bs.take k) [] :=
 ⟨(List.append_nil _).symm, fun x hx => h.ok x (List.mem_of_mem_take hx), ordB_take h.ord k, more_nil⟩
theorem scan_snoc {s : Sg} {x : Batch} (hg : goodB s = s.bytes.length) (h0 : errB x = 0) (ho : endB s ≤ x.base) : Scans s.base (s.bytes ++ bytesB x) (scanB s ++ [x]) [] := by
 obtain ⟨r, h⟩ := scan_spec s
 have hr : s.bytes = allB (scanB s) := by
  have e := h.eq
  have hl := congrArg List.length e
  rw [List.length_append] at hl
  have : r = [] := List.eq_nil_of_length_eq_zero (by unfold goodB at hg; omega)
  rw [this, List.append_nil] at e
  exact e
 have := Scans.join (ms := [x]) (r := bytesB x) (r' := []) h.ok h.ord ⟨by simp [allB], fun y hy => by simp at hy; subst hy; exact h0, ⟨ho, trivial⟩, more_nil⟩
 rw [← hr] at this
 exact this
theorem nextB_mono : ∀ {nx : Int} {bs : List Batch}, ordB nx bs → (∀ x ∈ bs, errB x = 0) → ∀ k, nextB nx (bs.take k) ≤ nextB nx bs
 | nx, [], _, _, k => by simp [nextB]
 | nx, x :: bs, ho, hok, 0 => by
  have h1 := nextB_mono ho.2 (fun z hz => hok z (.tail _ hz)) 0
  have h2 : x.base ≤ x.last := (errB_ok (hok x (.head _))).1.2.2.1.1
  have h3 := ho.1
  simp only [List.take_zero, nextB] at h1 ⊢
  omega
 | nx, x :: bs, ho, hok, k + 1 => nextB_mono ho.2 (fun z hz => hok z (.tail _ hz)) k
theorem F46 : Fun Tryz.prog 46 17 v46 c46 o46 := Fun.mkA Tryz.func46 Tryz.ntmps46
theorem SSame_ok (s t : Sg) (cs ds : List Value) (G : Nat → Option Obj) (hs : SE G s cs) (ht : SE G t ds) : FnS Tryz.prog 46 #[.agg cs.toArray, .agg ds.toArray] G (.bool (decide (s = t))) := by
 obtain ⟨A, c, rfl, hl, hi⟩ := hs
 obtain ⟨B, d, rfl, hm, hj⟩ := ht
 have hd : decide (s = t) = (decide (s.base = t.base) && decide (s.bytes = t.bytes)) := by
  rw [← Bool.decide_and]
  apply decide_eq_decide.2
  constructor
  ·rintro rfl; exact ⟨rfl, rfl⟩
  ·rintro ⟨h1, h2⟩; cases s; cases t; simp_all
 rw [hd]
 refine F46.fnS (by simp) (go_of ?_)
 unfold c46 cellS
 intros; refine gr 0 0 ?_; refine sJ c46r0.eq_1 ?_
 intros; refine gr 6 17 ?_; refine sJ c46r1.eq_1 ?_
 refine gd (fun k1 => ?_) (fun k1 => ?_)
 ·refine sI ?_
  refine (BSame_ok _ _ _ _ _ hl hm _ _).mono ?_; rintro _ _ ⟨rfl, rfl⟩; refine sI ?_
  intros; refine rV ?_; simp only [push_cast, Nat.reduceBEq]
  rw [k1, Bool.true_and]
 ·refine sI ?_
  intros; refine rV ?_; simp only [push_cast, Nat.reduceBEq]
  rw [k1, Bool.false_and]
theorem F74 : Fun Tryz.prog 74 50 v74 c74 o74 := Fun.mkA Tryz.func74 Tryz.ntmps74
theorem F69 : Fun Tryz.prog 69 23 v69 c69 o69 := Fun.mkA Tryz.func69 Tryz.ntmps69
theorem F38 : Fun Tryz.prog 38 25 v38 c38 o38 := Fun.mkA Tryz.func38 Tryz.ntmps38
theorem nextB_take {bs : List Batch} {t : Nat} {y : Batch} (b : Int) (h0 : 0 < t) (hy : bs[t - 1]? = some y) : nextB b (bs.take t) = y.last + 1 := by
 have := nextB_at b hy
 rwa [show t - 1 + 1 = t by omega] at this
theorem ordB_ge : ∀ {nx : Int} {bs : List Batch}, ordB nx bs → (∀ x ∈ bs, errB x = 0) → nx ≤ nextB nx bs
 | nx, [], _, _ => Int.le_refl _
 | nx, x :: bs, ho, hok => by
  have h1 := ordB_ge ho.2 (fun z hz => hok z (.tail _ hz))
  have h2 : x.base ≤ x.last := (errB_ok (hok x (.head _))).1.2.2.1.1
  have h3 := ho.1
  simp only [nextB]
  omega
theorem nextB_last0 {W : List Batch} {x : Batch} (b : Int) (hx : W[W.length - 1]? = some x) : nextB b W = x.last + 1 := by
 have h1 := (List.getElem?_eq_some_iff.1 hx).1
 have := nextB_at b hx
 rwa [show W.length - 1 + 1 = W.length by omega, List.take_length] at this
set_option maxHeartbeats 1000000 in
theorem RScan_ok (s : Sg) (cs : List Value) (G : Nat → Option Obj) (hs : SE G s cs) (hb : s.bytes.length ≤ 1000000) : FnO Tryz.prog 74 #[.agg cs.toArray] G [] (fun G' L' r => ScanR s G' L' r) := by
 have hs0 := hs
 obtain ⟨A, c, rfl, hl, hi⟩ := hs
 refine F74.fnO (by simp) noRegs_nil (go_of ?_)
 obtain ⟨rr, hsc⟩ := scan_spec s
 have hSR : ∀ G' u zc, Cells (BE G') 10 (scanB s) zc → ScanR s G' [.row u 39 10 (scanB s).length zc] (.tuple #[u, .int .i64 (((allB (scanB s)).length : Nat) : Int)]) := fun G' u zc h => ⟨u, zc, rfl, h, rfl⟩
 generalize scanB s = bs at hsc hSR
 have hlen := hsc.len
 unfold c74
 unfold cellS at hs0 ⊢
 intros; refine gr 0 0 ?_; refine sJ c74r0.eq_1 ?_
 intros; refine gr 0 0 ?_; refine sJ c74r1.eq_1 ?_
 intros; refine gr 0 0 ?_; refine sJ c74r2.eq_1 ?_
 intros
 (intros; try refine go_st ?_)
 refine go_ghost (ghost_nil none 39 10) ?_
 refine go_loop (fun e h => ∃ (t : Nat) (G' : Nat → Option Obj) (u : Value) (zc : List Value) (Lh : List Kx.Item), (t ≤ bs.length ∧ Gle G G' ∧ Cells (BE G') 10 (bs.take t) zc) ∧ e 4 = u ∧ e 5 = .int .i64 (((allB (bs.take t)).length : Nat) : Int) ∧ h = ⟨G', Lh, []⟩ ∧ [.row u 39 10 (bs.take t).length zc, .reg 1 [.int .i64 s.base, .slice A s.bytes.length c]].Sublist Lh) (fun e h => s.bytes.length + 1 - iv (e 5)) ?_ ?_
 ·exact ⟨0, G, _, [], _, ⟨Nat.zero_le _, .refl G, .nil⟩, eE, rfl, rfl, List.Sublist.refl _⟩
 rintro e h ⟨t, G', u, zc, Lh, ⟨ht, hgg, hzc⟩, e4, e5, rfl, hsub⟩
 refine go_keep [4, 5] ?_
 refine sJ2 @e4 @e5 ?_
 intros
 refine go_ghost (ghost_sub hsub) ?_
 have hget := RBGet_ok s.bytes (((allB (bs.take t)).length : Nat) : Int) _ G' (SB.le hl hgg) hb
 unfold GetBR at hget
 have htk := allB_take_le bs t
 have htl2 : (bs.take t).length = t := by rw [List.length_take]; omega
 intros; refine gr 9 17 ?_; refine sJ c74r3.eq_1 ?_
 refine (hget _ _).mono ?_
 rintro v h' ⟨G1, rfl, hg1, cs, rfl, hbe⟩
 have hg01 := hgg.trans hg1
 have hzc := cells_imp hzc fun _ _ h => BE.le hg1 h
 by_cases htl : t < bs.length
 ·obtain ⟨x, hx⟩ : ∃ x, bs[t]? = some x := ⟨bs[t], List.getElem?_eq_getElem htl⟩
  obtain ⟨a1, a2, a3, a4⟩ := hsc.at_ hx
  rw [a1] at hbe ⊢
  dsimp only at hbe ⊢
  have hbe0 := hbe
  obtain ⟨B, d, rfl, -⟩ := hbe
  have hlt : (allB (bs.take t)).length < (allB (bs.take (t + 1))).length := by
   have := bytesB_pos x
   rw [allB_take hx, List.length_append]
   omega
  have hle := allB_take_le bs (t + 1)
  have htk1 : bs.take (t + 1) = bs.take t ++ [x] := by rw [List.take_add_one, hx]; rfl
  have hge : s.base ≤ nextB s.base (bs.take t) := ordB_ge (ordB_take hsc.ord t) fun z hz => hsc.ok z (List.mem_of_mem_take hz)
  have n1 : decide ((0 : Int) ≠ 0) = false := by decide
  have n2 : decide (x.base < s.base) = false := decide_eq_false (by omega)
  unfold cellH at hbe0 ⊢
  refine sI ?_
  intros; try refine go_seq ?_
  refine go_gx (gx_knowS (.tail _ (.head _))) ?_
  rintro h' ⟨rfl, Au, cu, rfl, hcu, hmu⟩
  refine go_cut (fun e h => e 4 = .slice Au (bs.take t).length cu ∧ e 7 = .int .i64 (((allB (bs.take (t + 1))).length : Nat) : Int) ∧ h = ⟨G1, [.reg 6 [.int .i64 x.base, .int .i64 x.last, .int .i64 x.src, .int .i64 x.epoch, .int .i64 x.pid, .int .i64 x.gen, .int .i64 x.seq, .bool x.txn, .int .i64 x.ctl, .slice B x.recs.length d], .row (.slice Au (bs.take t).length cu) 39 10 (bs.take t).length zc, .reg 1 [.int .i64 s.base, .slice A s.bytes.length c]], []⟩) ?_ ?_
  ·by_cases h0 : 0 < t
   ·refine go_gx (gx_know (.tail _ (.head _)) (by omega)) ?_
    rintro h' ⟨rfl, g, c0, hA3, -, -⟩
    cases hA3
    obtain ⟨y, hy⟩ : ∃ y, bs[t - 1]? = some y := ⟨bs[t - 1]'(by omega), List.getElem?_eq_getElem _⟩
    have hyt : (bs.take t)[t - 1]? = some y := by rw [List.getElem?_take, if_pos (by omega)]; exact hy
    have hnx := nextB_take s.base h0 hy
    have hw1 := len_i t h0 (by omega)
    have n3 : decide (0 < (((bs.take t).length : Nat) : Int)) = true := decide_eq_true (by omega)
    have n4 : decide (x.base ≤ y.last) = false := decide_eq_false (by omega)
    obtain ⟨cy, hEy, hly, hcy⟩ := hzc.get hyt
    have hv1 := hcy 1 (.int .i64 y.last) (by obtain ⟨_, _, rfl, -⟩ := hEy; rfl)
    have hw1 : IntKind.i64.wrap ((((bs.take t).length : Nat) : Int) - 1) = ((t - 1 : Nat) : Int) := by rw [htl2]; exact hw1
    (intros; try refine go_st ?_); refine go_q 17 42 (by decide) ?_; refine sJ5 c74r4.eq_1 @n1 @n2 @n3 @hw1 ?_
    refine ⟨by omega, _, rfl, ?_⟩
    rw [add_off, add_off, Nat.zero_add]
    refine ⟨_, ldN_row (.tail _ (.head _)) hv1, ?_⟩
    refine sJ @n4 ?_
    intros; refine gc ?_; refine sI ?_
    (intros; try refine go_st ?_)
    exact go_l ⟨eE, eE, rfl⟩
   ·have n3 : decide (0 < (((bs.take t).length : Nat) : Int)) = false := decide_eq_false (by omega)
    (intros; try refine go_st ?_); refine go_q 17 42 (by decide) ?_; refine sJ4 c74r4.eq_1 @n1 @n2 @n3 ?_
    intros; refine gc ?_; refine sI ?_
    (intros; try refine go_st ?_)
    exact go_l ⟨eE, eE, rfl⟩
  rintro e h ⟨e4, e7, rfl⟩
  refine go_keep [4, 7] ?_
  refine sJ2 @e4 @e7 ?_
  intros
  intros; refine gr 45 49 ?_; refine sJ c74r6.eq_1 ?_
  intro bk hbk
  refine app1 (L1 := [_]) (L2 := [_]) (E := BE G1) (x := x) rfl hbe0 rfl (by simp [Value.oneCell']) hzc (by omega) (by omega) fun A' c' zc' hzc' => ?_
  rw [← htk1] at hzc' ⊢
  refine sI ?_
  intros; refine gr 49 50 ?_; refine sJ c74r7.eq_1 ?_
  (intros; try refine go_st ?_)
  refine go_l ⟨⟨t + 1, G1, _, zc', _, ⟨by omega, hg01, hzc'⟩, eE, eE, rfl, .cons _ (.cons _ (List.Sublist.refl _))⟩, ?_⟩
  refine sI ?_
  omega
 ·have htl : t = bs.length := by omega
  subst htl
  rw [List.take_length] at hget hbe hzc ⊢
  have hend := hsc.end_
  generalize getB s.bytes (((allB bs).length : Nat) : Int) = q at *
  obtain ⟨x, nx, er⟩ := q
  dsimp only at hbe hend ⊢
  obtain ⟨B, d, rfl, -⟩ := hbe
  unfold cellH
  have hfin := hSR G1 u zc hzc
  have hret : ∀ (e : Env) (fr : List Td), e 4 = u → e 5 = .int .i64 (((allB bs).length : Nat) : Int) → go none Tryz.prog 50 v74.1 v74.2 (retQ o74 fun v h => ScanR s h.G h.L v) (Td.s ((SC.reg false c74r5).seq .ret) :: fr) e ⟨G1, [.reg 6 [.int .i64 x.base, .int .i64 x.last, .int .i64 x.src, .int .i64 x.epoch, .int .i64 x.pid, .int .i64 x.gen, .int .i64 x.seq, .bool x.txn, .int .i64 x.ctl, .slice B x.recs.length d], .row u 39 10 bs.length zc, .reg 1 [.int .i64 s.base, .slice A s.bytes.length c]], []⟩ := fun e fr e4 e5 => by
   refine go_keep [4, 5] ?_
   refine sJ2 @e4 @e5 ?_
   intros; refine gr 43 45 ?_; refine sJ c74r5.eq_1 ?_
   (intros; try refine go_st ?_)
   exact go_ret (retQ_o _ rfl (.cons _ (.cons_cons _ (List.nil_sublist _))) (noRegs_row noRegs_nil) hfin)
  refine sI ?_
  intros; try refine go_seq ?_
  refine go_gx (gx_knowS (.tail _ (.head _))) ?_
  rintro h' ⟨rfl, Au, cu, rfl, hcu, hmu⟩
  by_cases h0 : 0 < bs.length
  ·refine go_gx (gx_know (.tail _ (.head _)) (by omega)) ?_
   rintro h' ⟨rfl, g, c0, hA3, -, -⟩
   cases hA3
   obtain ⟨y, hy⟩ : ∃ y, bs[bs.length - 1]? = some y := ⟨bs[bs.length - 1]'(by omega), List.getElem?_eq_getElem _⟩
   have hnx := nextB_last0 s.base hy
   have hw1 := len_i bs.length h0 (by omega)
   have n3 : decide (0 < ((bs.length : Nat) : Int)) = true := decide_eq_true (by omega)
   obtain ⟨cy, hEy, hly, hcy⟩ := hzc.get hy
   have hv1 := hcy 1 (.int .i64 y.last) (by obtain ⟨_, _, rfl, -⟩ := hEy; rfl)
   (intros; try refine go_st ?_); refine go_q 17 42 (by decide) ?_; refine sJ c74r4.eq_1 ?_
   refine gq (fun k1 => ?_) (fun k1 => ?_)
   ·refine sI ?_
    intros; refine gc ?_; refine sI ?_
    exact hret _ _ (eE) (eE)
   have k1 : er = 0 := by simpa using k1
   refine sI ?_
   refine gq (fun k2 => ?_) (fun k2 => ?_)
   ·refine sI ?_
    intros; refine gc ?_; refine sI ?_
    exact hret _ _ (eE) (eE)
   have k2 := of_decide_eq_false k2
   have n4 : decide (x.base ≤ y.last) = true := decide_eq_true (by rcases hend with h | h; exact absurd k1 h; omega)
   refine sJ2 @n3 @hw1 ?_
   refine ⟨by omega, _, rfl, ?_⟩
   rw [add_off, add_off, Nat.zero_add]
   refine ⟨_, ldN_row (.tail _ (.head _)) hv1, ?_⟩
   refine sJ @n4 ?_
   intros; refine gc ?_; refine sI ?_
   exact hret _ _ (eE) (eE)
  ·have hb0 : bs = [] := List.eq_nil_of_length_eq_zero (by omega)
   have hnx : nextB s.base bs = s.base := by rw [hb0]; rfl
   (intros; try refine go_st ?_); refine go_q 17 42 (by decide) ?_; refine sJ c74r4.eq_1 ?_
   refine gq (fun k1 => ?_) (fun k1 => ?_)
   ·refine sI ?_
    intros; refine gc ?_; refine sI ?_
    exact hret _ _ (eE) (eE)
   have k1 : er = 0 := by simpa using k1
   have k2 : decide (x.base < s.base) = true := decide_eq_true (by rcases hend with h | h; exact absurd k1 h; omega)
   refine sJ @k2 ?_
   intros; refine gc ?_; refine sI ?_
   exact hret _ _ (eE) (eE)
theorem REnd_ok (s : Sg) (cs : List Value) (G : Nat → Option Obj) (hs : SE G s cs) (hb : s.bytes.length ≤ 1000000) : FnS Tryz.prog 69 #[.agg cs.toArray] G (.int .i64 (endB s)) := by
 have hscan := RScan_ok s cs G hs hb
 have hs0 := hs
 obtain ⟨A, c, rfl, hl, hi⟩ := hs
 obtain ⟨rr, hsc⟩ := scan_spec s
 have hend : endB s = nextB s.base (scanB s) := rfl
 refine F69.fnS (by simp) (go_of ?_)
 unfold c69
 unfold cellS at hscan ⊢
 intros; refine gr 0 0 ?_; refine sJ c69r0.eq_1 ?_
 intros; refine gr 4 10 ?_; refine sJ c69r1.eq_1 ?_
 refine (hscan _ _).mono ?_
 rintro r h' ⟨G1, L', rfl, hg1, u, zc, rfl, hzc, rfl⟩
 generalize scanB s = bs at *
 refine sI ?_
 intros; try refine go_seq ?_
 refine go_gx (gx_slv_at [] _ (by decide) hzc) ?_
 rintro h' ⟨G2, rfl, hg2, A2, c2, rfl, hc2, hm2, hA2⟩
 intros; refine gr 10 12 ?_; refine sJ c69r2.eq_1 ?_
 intros; refine gc ?_; refine sI ?_
 refine gb (fun k1 => ?_) (fun k1 => ?_)
 ·have k1 := of_decide_eq_true k1
  have hb0 : bs = [] := List.eq_nil_of_length_eq_zero (by omega)
  intros; refine gr 14 15 ?_; refine sJ c69r3.eq_1 ?_
  intros; refine rV ?_; simp only [push_cast, Nat.reduceBEq]
  rw [hend, hb0]
  rfl
 ·have k1 := of_decide_eq_false k1
  obtain ⟨y, hy⟩ : ∃ y, bs[bs.length - 1]? = some y := ⟨bs[bs.length - 1]'(by omega), List.getElem?_eq_getElem _⟩
  have hnx := nextB_last0 s.base hy
  have hw1 := len_i bs.length (by omega) (by omega)
  have hlw := last_i (hsc.ok y (List.mem_of_getElem? hy))
  intros; refine gN ?_
  intros; refine gr 15 23 ?_; refine sJ2 c69r4.eq_1 @hw1 ?_
  refine hA2.x_lf (k := bs.length - 1) (u := .int .i64 y.last) hy (by omega) rfl (fun cs h => by obtain ⟨_, _, rfl, -⟩ := h; rfl) fun a ha => ?_
  refine sJ @hlw ?_
  intros; refine rV ?_; simp only [push_cast, Nat.reduceBEq]
  rw [hend, hnx]
def wholeB (s : Sg) : Bool := inO s.base && decide (goodB s = s.bytes.length)
theorem RWhole_ok (s : Sg) (cs : List Value) (G : Nat → Option Obj) (hs : SE G s cs) (hb : s.bytes.length ≤ 1000000) : FnS Tryz.prog 38 #[.agg cs.toArray] G (.bool (wholeB s)) := by
 have hscan := RScan_ok s cs G hs hb
 obtain ⟨A, c, rfl, hl, hi⟩ := hs
 refine F38.fnS (by simp) (go_of ?_)
 unfold c38
 unfold cellS at hscan ⊢
 have hd : decide (((goodB s : Nat) : Int) = ((s.bytes.length : Nat) : Int)) = decide (goodB s = s.bytes.length) := decide_eq_decide.2 (by omega)
 intros; refine gr 0 0 ?_; refine sJ c38r0.eq_1 ?_
 intros; refine gr 5 10 ?_; refine sJ c38r1.eq_1 ?_
 refine (hscan _ _).mono ?_
 rintro r h' ⟨G1, L', rfl, hg1, u, zc, rfl, hzc, rfl⟩
 refine sI ?_
 intros; refine gr 11 25 ?_; refine sJ2 c38r2.eq_1 @hd ?_
 refine gd (fun k1 => ?_) (fun k1 => ?_)
 ·refine sI ?_
  refine gd (fun k2 => ?_) (fun k2 => ?_)
  ·refine sJ @hd ?_
   intros; refine rV ?_; simp only [push_cast, Nat.reduceBEq]
   rw [wholeB, inO, k1, k2, Bool.true_and, Bool.true_and]
  ·refine sI ?_
   intros; refine rV ?_; simp only [push_cast, Nat.reduceBEq]
   rw [wholeB, inO, k2, Bool.and_false, Bool.false_and]
 ·refine sI ?_
  intros; refine rV ?_; simp only [push_cast, Nat.reduceBEq]
  rw [wholeB, inO, k1, Bool.false_and, Bool.false_and]
structure Lg where
 limit : Int
 start : Int
 segs : List Sg
deriving DecidableEq
def noneL : Lg := ⟨0, 0, []⟩
def mayO (limit start : Int) : Bool := decide (256 ≤ limit) && decide (limit ≤ 4096) && inO start
def folB (a b : Sg) : Bool := decide (a.base < b.base) && decide (endB a ≤ b.base)
def fitS (limit : Int) (p : Option Sg) (s : Sg) : Prop := (wholeB s = true ∧ (s.bytes.length : Int) ≤ limit) ∧ ∀ a, p = some a → folB a s = true
instance (limit : Int) (s : Sg) : ∀ p, Decidable (fitS limit p s)
 | none => if h : wholeB s = true ∧ (s.bytes.length : Int) ≤ limit then .isTrue ⟨h, fun a h => by cases h⟩ else .isFalse fun hh => h hh.1
 | some a => if h : (wholeB s = true ∧ (s.bytes.length : Int) ≤ limit) ∧ folB a s = true then .isTrue ⟨h.1, fun b hb => by cases hb; exact h.2⟩ else .isFalse fun hh => h ⟨hh.1, hh.2 a rfl⟩
def okS (limit : Int) : Option Sg → List Sg → Prop
 | _, [] => True
 | p, s :: ss => fitS limit p s ∧ okS limit (some s) ss
instance (limit : Int) : ∀ p l, Decidable (okS limit p l)
 | _, [] => .isTrue trivial
 | p, s :: ss => @instDecidableAnd _ _ (inferInstance) (instDecidableOkS limit (some s) ss)
where instDecidableOkS (limit : Int) : ∀ p l, Decidable (okS limit p l)
 | _, [] => .isTrue trivial
 | p, s :: ss => @instDecidableAnd _ _ (inferInstance) (instDecidableOkS limit (some s) ss)
def endP : Option Sg → List Sg → Option Sg
 | p, [] => p
 | _, s :: ss => endP (some s) ss
theorem endP_app (p : Option Sg) (a b : List Sg) : endP p (a ++ b) = endP (endP p a) b := by
 induction a generalizing p with
 | nil => rfl
 | cons x a ih => exact ih _
theorem okS_app (limit : Int) (p : Option Sg) (a b : List Sg) : okS limit p (a ++ b) ↔ okS limit p a ∧ okS limit (endP p a) b := by
 induction a generalizing p with
 | nil => simp [okS, endP]
 | cons x a ih => simp only [List.cons_append, okS, endP, ih, and_assoc]
theorem endP_snoc (p : Option Sg) (a : List Sg) (s : Sg) : endP p (a ++ [s]) = some s := by rw [endP_app]; rfl
theorem take_snoc' {α : Type} {l : List α} {k : Nat} {x : α} (h : l[k]? = some x) : l.take (k + 1) = l.take k ++ [x] := by rw [List.take_add_one, h]; rfl
theorem endP_take {l : List Sg} {k : Nat} {s : Sg} (p : Option Sg) (h : l[k]? = some s) : endP p (l.take (k + 1)) = some s := by rw [take_snoc' h, endP_snoc]
theorem okS_take {limit : Int} {l : List Sg} {k : Nat} {s : Sg} (h : l[k]? = some s) : okS limit none (l.take (k + 1)) ↔ okS limit none (l.take k) ∧ fitS limit (endP none (l.take k)) s := by
 rw [take_snoc' h, okS_app]
 simp [okS]
theorem okS_pre {limit : Int} {p : Option Sg} {l : List Sg} (h : okS limit p l) (k : Nat) : okS limit p (l.take k) := by
 rw [← List.take_append_drop k l, okS_app] at h
 exact h.1
theorem okS_mem {limit : Int} {l : List Sg} : ∀ {p : Option Sg}, okS limit p l → ∀ s ∈ l, wholeB s = true ∧ (s.bytes.length : Int) ≤ limit := by
 induction l with
 | nil => intro p _ s h; cases h
 | cons x l ih =>
  intro p h s hs
  rcases List.mem_cons.1 hs with rfl | hs
  ·exact h.1.1
  ·exact ih h.2 s hs
theorem endP_last {l : List Sg} {s : Sg} (p : Option Sg) (h : l[l.length - 1]? = some s) : endP p l = some s := by
 have h0 := (List.getElem?_eq_some_iff.1 h).1
 have := endP_take p h
 rwa [Nat.sub_add_cancel (by omega), List.take_length] at this
def chkL (l : Lg) : Int := if mayO l.limit l.start = true ∧ l.segs ≠ [] ∧ okS l.limit none l.segs then (if 256 < l.segs.length then 2 else 0) else 1
theorem chkL_0 {l : Lg} (h : chkL l = 0) : mayO l.limit l.start = true ∧ l.segs ≠ [] ∧ okS l.limit none l.segs ∧ l.segs.length ≤ 256 := by
 unfold chkL at h
 split at h
 ·rename_i h1
  split at h
  ·cases h
  ·exact ⟨h1.1, h1.2.1, h1.2.2, by omega⟩
 ·cases h
theorem chkL_is {l : Lg} (h1 : mayO l.limit l.start = true) (h2 : l.segs ≠ []) (h3 : okS l.limit none l.segs) (h4 : l.segs.length ≤ 256) : chkL l = 0 := by
 rw [chkL, if_pos ⟨h1, h2, h3⟩, if_neg (by omega)]
theorem mayO_iff {a b : Int} : mayO a b = true ↔ (256 ≤ a ∧ a ≤ 4096) ∧ inO b = true := by simp [mayO]
def endO (n : Int) : Option Sg → Int
 | none => n
 | some s => max n (endB s)
def endL (l : Lg) : Int := endO l.start (endP none l.segs)
def EndL (l : Lg) : Int := if chkL l = 0 then endL l else 0
def maxE : Int → List Sg → Int
 | n, [] => n
 | n, s :: ss => maxE (max n (endB s)) ss
theorem maxE_app (n : Int) (a b : List Sg) : maxE n (a ++ b) = maxE (maxE n a) b := by
 induction a generalizing n with
 | nil => rfl
 | cons x a ih => exact ih _
theorem whole_iff {s : Sg} : wholeB s = true ↔ goodB s = s.bytes.length ∧ inO s.base = true := by
 simp [wholeB, and_comm]
theorem Scans.ge {nx : Int} {q r : List UInt8} {bs : List Batch} (h : Scans nx q bs r) : nx ≤ nextB nx bs := by
 have := nextB_mono h.ord h.ok 0
 simpa [nextB] using this
theorem endB_ge (s : Sg) : s.base ≤ endB s := by
 obtain ⟨r, h⟩ := scan_spec s
 exact h.ge
theorem folB_iff {a b : Sg} : folB a b = true ↔ a.base < b.base ∧ endB a ≤ b.base := by simp [folB]
theorem maxE_ok {limit : Int} : ∀ {l : List Sg} {p : Option Sg} {n : Int}, okS limit p l → maxE (endO n p) l = endO n (endP p l)
 | [], p, n, h => rfl
 | s :: l, p, n, h => by
  show maxE (max (endO n p) (endB s)) l = endO n (endP (some s) l)
  have : max (endO n p) (endB s) = endO n (some s) := by
   cases p with
   | none => rfl
   | some a =>
    have := folB_iff.1 (h.1.2 a rfl)
    have := endB_ge s
    show max (max n (endB a)) (endB s) = max n (endB s)
    omega
  rw [this]
  exact maxE_ok h.2
theorem maxE_is {l : Lg} (h : okS l.limit none l.segs) : maxE l.start l.segs = endL l := maxE_ok (p := none) h
def bsS (l : List Sg) : List Batch := l.flatMap scanB
theorem bsS_nil : bsS [] = [] := rfl
theorem bsS_cons (s : Sg) (l : List Sg) : bsS (s :: l) = scanB s ++ bsS l := rfl
theorem bsS_app (a b : List Sg) : bsS (a ++ b) = bsS a ++ bsS b := by simp [bsS]
def reach (off : Int) (l : List Batch) : List Batch := l.filter fun b => decide (off ≤ b.last)
theorem reach_app (off : Int) (a b : List Batch) : reach off (a ++ b) = reach off a ++ reach off b := by simp [reach]
def allL (l : Lg) : List Batch := reach l.start (bsS l.segs)
def AllL (l : Lg) : List Batch := if chkL l = 0 then allL l else []
def newL (limit start : Int) : Lg × Int := if mayO limit start = true then (⟨limit, start, [⟨start, []⟩]⟩, 0) else (noneL, 1)
def lastS (l : Lg) : Sg := (endP none l.segs).getD noneS
def appL (l : Lg) (b : Batch) : Lg × Int :=
 if chkL l = 0 then
  if errB b = 0 then
   if b.base < endL l then (noneL, 71)
   else if l.limit < ((bytesB b).length : Int) then (noneL, 70)
   else if (appS (lastS l) b l.limit).2 = 0 then (⟨l.limit, l.start, l.segs.take (l.segs.length - 1) ++ [(appS (lastS l) b l.limit).1]⟩, 0)
   else if l.segs.length = 256 then (noneL, 2)
   else (⟨l.limit, l.start, l.segs ++ [⟨b.base, bytesB b⟩]⟩, 0)
  else (noneL, errB b)
 else (noneL, chkL l)
def asks : Bool → Int → List Batch → List Batch
 | _, _, [] => []
 | one, n, b :: bs => if one = true ∧ n - ((bytesB b).length : Int) < 0 then [] else b :: asks true (n - ((bytesB b).length : Int)) bs
def betw (l : Lg) (off : Int) : Bool := decide (l.start ≤ off) && decide (off ≤ endL l)
def readL (l : Lg) (off most : Int) : List Batch × Int :=
 if chkL l = 0 then if most < 0 then ([], 1) else if betw l off = true then (asks false most (reach off (bsS l.segs)), 0) else ([], 90) else ([], chkL l)
def truS (l : List Sg) (to : Int) : List Sg := (l.filter fun s => decide (s.base < to)).map fun s => cutS s to
def truT (l : List Sg) (to : Int) : List Sg := if truS l to = [] then [⟨to, []⟩] else truS l to
def truL (l : Lg) (to : Int) : Lg × Int :=
 if chkL l = 0 then if betw l to = true then (⟨l.limit, l.start, truT l.segs to⟩, 0) else (noneL, 90) else (noneL, chkL l)
def trmN (st : Int) : List Sg → Nat
 | s :: t :: l => if endB s ≤ st then trmN st (t :: l) + 1 else 0
 | _ => 0
def trmL (l : Lg) (st : Int) : Lg × Int :=
 if chkL l = 0 then if betw l st = true ∧ inO st = true then (⟨l.limit, st, l.segs.drop (trmN st l.segs)⟩, 0) else (noneL, 90) else (noneL, chkL l)
def nthS (l : Lg) (n : Nat) : Sg := l.segs.getD n noneS
def repL (l : Lg) (n : Int) (bs : List Batch) : Lg × Int :=
 if chkL l = 0 then
  if 0 ≤ n ∧ n < (l.segs.length : Int) - 1 then
   if (ofS (nthS l n.toNat).base bs l.limit).2 = 0 then
    if (nthS l (n.toNat + 1)).base < endB (ofS (nthS l n.toNat).base bs l.limit).1 then (noneL, 71)
    else (⟨l.limit, l.start, l.segs.set n.toNat (ofS (nthS l n.toNat).base bs l.limit).1⟩, 0)
   else (noneL, (ofS (nthS l n.toNat).base bs l.limit).2)
  else (noneL, 90)
 else (noneL, chkL l)
def keeps (p : Option Sg) (s : Sg) : Bool :=
 match p with
 | none => true
 | some a => wholeB a && folB a s
def recS : Option Sg → List Sg → List Sg
 | _, [] => []
 | p, s :: ss => if keeps p s = true then (fixS s).1 :: recS (some s) ss else []
def sizS : List Sg → Nat
 | [] => 0
 | s :: ss => s.bytes.length + sizS ss
theorem sizS_app (a b : List Sg) : sizS (a ++ b) = sizS a + sizS b := by
 induction a with
 | nil => simp [sizS]
 | cons x a ih => simp only [List.cons_append, sizS, ih]; omega
def headO (l : Lg) : Bool := match l.segs with | [] => false | s :: _ => inO s.base
def recL (l : Lg) : Lg × Int :=
 if mayO l.limit l.start = true ∧ headO l = true then (⟨l.limit, l.start, recS none l.segs⟩, (sizS l.segs : Int) - (sizS (recS none l.segs) : Int)) else (noneL, 0)
theorem limO_of {a b : Int} (h : mayO a b = true) : limO a = true := by
 have := mayO_iff.1 h
 exact limO_iff.2 ⟨by omega, by omega⟩
theorem err_le {b : Batch} (h : errB b = 0) : b.base ≤ b.last := (errB_ok h).1.2.2.1.1
theorem err_in {b : Batch} (h : errB b = 0) : inO b.base = true ∧ inO b.last = true := by
 obtain ⟨⟨f1, f2, -⟩, -⟩ := (errB_ok h).1
 simp [rng] at f1 f2
 exact ⟨inO_iff.2 (by omega), inO_iff.2 (by omega)⟩
theorem appS_w {s : Sg} {b : Batch} {limit : Int} (hw : wholeB s = true) (hl : limO limit = true) (h0 : errB b = 0) (ho : endB s ≤ b.base) :
  appS s b limit = if limit < ((s.bytes.length + (bytesB b).length : Nat) : Int) then (noneS, 70) else (⟨s.base, s.bytes ++ bytesB b⟩, 0) := by
 have hw := whole_iff.1 hw
 split
 ·rename_i h; exact appS_r ⟨hw.1, hw.2, hl⟩ h0 (by omega) h
 ·rename_i h; exact appS_0 ⟨hw.1, hw.2, hl⟩ h0 (by omega) h
theorem new_in {base : Int} (h : inO base = true) : newS base = (⟨base, []⟩, 0) := if_pos h
theorem nil_end (base : Int) : endB ⟨base, []⟩ = base := rfl
theorem of_one {b : Batch} {limit : Int} (hl : limO limit = true) (h0 : errB b = 0) (h1 : ((bytesB b).length : Int) ≤ limit) : ofS b.base [b] limit = (⟨b.base, bytesB b⟩, 0) := by
 have hin := (err_in h0).1
 have ha : appS ⟨b.base, []⟩ b limit = (⟨b.base, bytesB b⟩, 0) := by
  have := appS_0 (s := ⟨b.base, []⟩) (x := b) (limit := limit) ⟨rfl, hin, hl⟩ h0 (by rw [nil_end]; omega) (by simp; omega)
  rw [this]
  simp
 unfold ofS
 rw [new_in hin, if_pos ⟨rfl, hl⟩]
 simp only [ofL, ha, if_true]
theorem scan_one {b : Batch} (h0 : errB b = 0) : scanB ⟨b.base, bytesB b⟩ = [b] :=
 Scans.is (r := []) ⟨by simp [allB], fun x hx => by simp at hx; subst hx; exact h0, ⟨Int.le_refl _, trivial⟩, more_nil⟩
theorem whole_one {b : Batch} (h0 : errB b = 0) : wholeB ⟨b.base, bytesB b⟩ = true :=
 whole_iff.2 ⟨by rw [goodB, scan_one h0]; simp [allB], (err_in h0).1⟩
theorem end_one {b : Batch} (h0 : errB b = 0) : endB ⟨b.base, bytesB b⟩ = b.last + 1 := by rw [endB, scan_one h0]; rfl
theorem whole_all {s : Sg} (h : goodB s = s.bytes.length) : s.bytes = allB (scanB s) := by
 obtain ⟨r, hs⟩ := scan_spec s
 have e := hs.eq
 have hl := congrArg List.length e
 rw [List.length_append] at hl
 have : r = [] := List.eq_nil_of_length_eq_zero (by unfold goodB at h; omega)
 rw [this, List.append_nil] at e
 exact e
theorem snoc_w {s : Sg} {b : Batch} (hw : wholeB s = true) (h0 : errB b = 0) (ho : endB s ≤ b.base) : scanB ⟨s.base, s.bytes ++ bytesB b⟩ = scanB s ++ [b] ∧ wholeB ⟨s.base, s.bytes ++ bytesB b⟩ = true ∧ endB ⟨s.base, s.bytes ++ bytesB b⟩ = b.last + 1 := by
 have hw := whole_iff.1 hw
 have h1 : scanB ⟨s.base, s.bytes ++ bytesB b⟩ = scanB s ++ [b] := Scans.is (r := []) (scan_snoc hw.1 h0 ho)
 refine ⟨h1, whole_iff.2 ⟨?_, hw.2⟩, ?_⟩
 ·rw [goodB, h1, allB_app, ← whole_all hw.1]
  simp [allB]
 ·rw [endB, h1, nextB_app]
  rfl
theorem last_split {l : List Sg} (h : l ≠ []) : ∃ s, l[l.length - 1]? = some s ∧ l = l.take (l.length - 1) ++ [s] ∧ endP none l = some s := by
 have h0 : 0 < l.length := List.length_pos_iff.2 h
 refine ⟨l[l.length - 1]'(by omega), List.getElem?_eq_getElem _, ?_, ?_⟩
 ·have := take_snoc' (l := l) (k := l.length - 1) (List.getElem?_eq_getElem (by omega))
  rwa [Nat.sub_add_cancel (by omega), List.take_length] at this
 ·exact endP_last none (List.getElem?_eq_getElem _)
theorem endL_ge (l : Lg) : l.start ≤ endL l := by
 unfold endL endO
 split <;> omega
theorem log_last {l : Lg} (h : chkL l = 0) : ∃ s, l.segs[l.segs.length - 1]? = some s ∧ l.segs = l.segs.take (l.segs.length - 1) ++ [s] ∧ lastS l = s ∧ endL l = max l.start (endB s) ∧ fitS l.limit (endP none (l.segs.take (l.segs.length - 1))) s := by
 obtain ⟨h1, h2, h3, h4⟩ := chkL_0 h
 obtain ⟨s, e1, e2, e3⟩ := last_split h2
 refine ⟨s, e1, e2, by rw [lastS, e3]; rfl, by rw [endL, e3]; rfl, ?_⟩
 rw [e2, okS_app] at h3
 exact h3.2.1
theorem appL_ok {l : Lg} {b : Batch} (h : (appL l b).2 = 0) : (chkL l = 0 ∧ errB b = 0 ∧ endL l ≤ b.base ∧ ((bytesB b).length : Int) ≤ l.limit) ∧ ((appL l b).1.limit = l.limit ∧ (appL l b).1.start = l.start) ∧ chkL (appL l b).1 = 0 ∧ endL (appL l b).1 = b.last + 1 ∧ bsS (appL l b).1.segs = bsS l.segs ++ [b] ∧ ((appL l b).1.segs.length = l.segs.length ∨ (appL l b).1.segs.length = l.segs.length + 1) := by
 have hge := endL_ge l
 unfold appL at h ⊢
 by_cases k0 : ¬ chkL l = 0
 ·rw [if_neg k0] at h; exact absurd h k0
 have k0 := Decidable.not_not.1 k0
 rw [if_pos k0] at h ⊢
 by_cases k1 : ¬ errB b = 0
 ·rw [if_neg k1] at h; exact absurd h k1
 have k1 := Decidable.not_not.1 k1
 rw [if_pos k1] at h ⊢
 by_cases k2 : b.base < endL l
 ·rw [if_pos k2] at h; cases h
 rw [if_neg k2] at h ⊢
 by_cases k3 : l.limit < ((bytesB b).length : Int)
 ·rw [if_pos k3] at h; cases h
 rw [if_neg k3] at h ⊢
 refine ⟨⟨k0, k1, by omega, by omega⟩, ?_⟩
 obtain ⟨c1, c2, c3, c4⟩ := chkL_0 k0
 obtain ⟨s, e1, e2, e3, e4, e5⟩ := log_last k0
 have hb := err_le k1
 rw [e3] at h ⊢
 have hap := appS_w e5.1.1 (limO_of c1) k1 (show endB s ≤ b.base by omega)
 have hlen : 0 < l.segs.length := List.length_pos_iff.2 c2
 have hok := c3
 rw [e2, okS_app] at hok
 by_cases k4 : l.limit < ((s.bytes.length + (bytesB b).length : Nat) : Int)
 ·rw [if_pos k4] at hap
  rw [hap] at h ⊢
  rw [if_neg (by decide)] at h ⊢
  by_cases k5 : l.segs.length = 256
  ·rw [if_pos k5] at h; cases h
  rw [if_neg k5] at h ⊢
  refine ⟨⟨rfl, rfl⟩, chkL_is c1 (by simp) ?_ (by simp; omega), ?_, ?_, .inr (by simp)⟩
  ·show okS l.limit none (l.segs ++ [⟨b.base, bytesB b⟩])
   rw [okS_app]
   refine ⟨c3, ⟨⟨whole_one k1, by show ((bytesB b).length : Int) ≤ _; omega⟩, fun a ha => ?_⟩, trivial⟩
   rw [endP_last none e1] at ha
   cases ha
   have hwb : s.base < b.base := by
    have h6 := (whole_iff.1 e5.1.1).1
    have h7 := whole_all h6
    obtain ⟨r, hs⟩ := scan_spec s
    have hne : scanB s ≠ [] := fun hh => by
     rw [hh] at h7
     have : s.bytes.length = 0 := by rw [h7]; rfl
     omega
    obtain ⟨x, bs, hx⟩ := List.exists_cons_of_ne_nil hne
    have ho := hs.ord
    have hk := hs.ok
    rw [hx] at ho hk
    have h8 := err_le (hk x (.head _))
    have h9 := ordB_ge ho.2 (fun z hz => hk z (.tail _ hz))
    have h10 : endB s = nextB (x.last + 1) bs := by rw [endB, hx]; rfl
    have h11 := ho.1
    omega
   exact folB_iff.2 ⟨hwb, by show endB s ≤ b.base; omega⟩
  ·show endO l.start (endP none (l.segs ++ [_])) = _
   rw [endP_snoc]
   show max l.start (endB ⟨b.base, bytesB b⟩) = _
   rw [end_one k1]
   omega
  ·show bsS (l.segs ++ [_]) = _
   rw [bsS_app]
   congr 1
   rw [bsS_cons, bsS_nil, scan_one k1]
   rfl
 ·rw [if_neg k4] at hap
  rw [hap] at h ⊢
  rw [if_pos rfl]
  obtain ⟨g1, g2, g3⟩ := snoc_w e5.1.1 k1 (show endB s ≤ b.base by omega)
  have hl2 : (l.segs.take (l.segs.length - 1) ++ [(⟨s.base, s.bytes ++ bytesB b⟩ : Sg)]).length = l.segs.length := by
   rw [List.length_append, List.length_take]
   simp only [List.length_cons, List.length_nil]
   omega
  refine ⟨⟨rfl, rfl⟩, chkL_is c1 (by simp) ?_ (by show List.length _ ≤ _; rw [hl2]; omega), ?_, ?_, .inl hl2⟩
  ·show okS l.limit none (_ ++ [_])
   rw [okS_app]
   refine ⟨hok.1, ⟨⟨g2, by show ((s.bytes ++ bytesB b).length : Int) ≤ _; rw [List.length_append]; omega⟩, fun a ha => ?_⟩, trivial⟩
   exact e5.2 a ha
  ·show endO l.start (endP none (_ ++ [_])) = _
   rw [endP_snoc]
   show max l.start (endB ⟨s.base, s.bytes ++ bytesB b⟩) = _
   rw [g3]
   omega
  ·show bsS (_ ++ [_]) = _
   rw [bsS_app, bsS_cons, bsS_nil, List.append_nil, g1, ← List.append_assoc]
   congr 1
   conv => rhs; rw [e2]
   rw [bsS_app, bsS_cons, bsS_nil, List.append_nil]
theorem appL_all {l : Lg} {b : Batch} (h : (appL l b).2 = 0) : allL (appL l b).1 = allL l ++ [b] := by
 obtain ⟨⟨-, h1, h2, -⟩, ⟨h3, h4⟩, -, -, h5, -⟩ := appL_ok h
 have := endL_ge l
 have := err_le h1
 unfold allL
 rw [h4, h5, reach_app]
 congr 1
 unfold reach
 rw [List.filter_cons, if_pos (by simp; omega)]
 rfl
theorem whole_len {s : Sg} (h : wholeB s = true) : (allB (scanB s)).length = s.bytes.length := (whole_iff.1 h).1
theorem bsS_len {limit : Int} : ∀ {l : List Sg} {p : Option Sg}, okS limit p l → (allB (bsS l)).length = sizS l
 | [], _, _ => rfl
 | s :: l, p, h => by
  rw [bsS_cons, allB_app, List.length_append, whole_len h.1.1.1, sizS, bsS_len h.2]
theorem sizS_le {limit : Int} : ∀ {l : List Sg} {p : Option Sg}, okS limit p l → (sizS l : Int) ≤ limit * l.length
 | [], _, _ => by simp [sizS]
 | s :: l, p, h => by
  have h1 := sizS_le h.2
  have h2 := h.1.1.2
  rw [sizS, List.length_cons]
  push_cast
  rw [Int.mul_add]
  omega
theorem reach_len (off : Int) (l : List Batch) : (allB (reach off l)).length ≤ (allB l).length := by
 induction l with
 | nil => exact Nat.le_refl _
 | cons b l ih =>
  unfold reach at ih ⊢
  rw [List.filter_cons]
  split
  ·simp only [allB_cons, List.length_append]; omega
  ·simp only [allB_cons, List.length_append]; omega
theorem bsS_err {l : List Sg} : ∀ x ∈ bsS l, errB x = 0 := fun x hx => by
 obtain ⟨s, -, hs⟩ := List.mem_flatMap.1 hx
 obtain ⟨r, h⟩ := scan_spec s
 exact h.ok x hs
theorem reach_mem {off : Int} {l : List Batch} {x : Batch} (h : x ∈ reach off l) : x ∈ l ∧ off ≤ x.last := by
 unfold reach at h
 rw [List.mem_filter] at h
 exact ⟨h.1, of_decide_eq_true h.2⟩
theorem fix_w {s : Sg} (h : wholeB s = true) : fixS s = (s, 0) := by
 have := (whole_iff.1 h).1
 unfold fixS
 rw [this, List.take_length]
 cases s
 simp
theorem recS_app {limit : Int} : ∀ {l m : List Sg} {p : Option Sg}, (∀ a, p = some a → wholeB a = true) → okS limit p l → recS p (l ++ m) = l ++ recS (endP p l) m
 | [], m, p, _, _ => rfl
 | s :: l, m, p, hp, h => by
  have hk : keeps p s = true := by
   cases p with
   | none => rfl
   | some a => simp [keeps, hp a rfl, h.1.2 a rfl]
  rw [List.cons_append, recS, if_pos hk, fix_w h.1.1.1, recS_app (fun a ha => by cases ha; exact h.1.1.1) h.2]
  rfl
theorem recS_ok {limit : Int} {l : List Sg} (h : okS limit none l) : recS none l = l := by
 have := recS_app (m := []) (fun a ha => by cases ha) h
 rw [List.append_nil] at this
 rw [this, recS, List.append_nil]
theorem headL_ok {l : Lg} (h : chkL l = 0) : headO l = true := by
 obtain ⟨h1, h2, h3, h4⟩ := chkL_0 h
 unfold headO
 cases hs : l.segs with
 | nil => exact absurd hs h2
 | cons s ss =>
  rw [hs] at h3
  exact (whole_iff.1 h3.1.1.1).2
theorem recL_ok {l : Lg} (h : chkL l = 0) : recL l = (l, 0) := by
 obtain ⟨h1, h2, h3, h4⟩ := chkL_0 h
 unfold recL
 rw [if_pos ⟨h1, headL_ok h⟩, recS_ok h3]
 simp
theorem new_chk {limit start : Int} (h : mayO limit start = true) : chkL ⟨limit, start, [⟨start, []⟩]⟩ = 0 := by
 have := (mayO_iff.1 h)
 exact chkL_is h (by simp) ⟨⟨⟨whole_iff.2 ⟨rfl, this.2⟩, by show (0 : Int) ≤ limit; omega⟩, fun a ha => by cases ha⟩, trivial⟩ (by simp)
theorem split_at {α : Type} {l : List α} {k : Nat} {x : α} (h : l[k]? = some x) : l = l.take k ++ x :: l.drop (k + 1) := by
 obtain ⟨h1, h2⟩ := List.getElem?_eq_some_iff.1 h
 conv => lhs; rw [← List.take_append_drop k l, List.drop_eq_getElem_cons h1, h2]
theorem F64 : Fun Tryz.prog 64 9 v64 c64 o64 := Fun.mkA Tryz.func64 Tryz.ntmps64
theorem F34 : Fun Tryz.prog 34 15 v34 c34 o34 := Fun.mkA Tryz.func34 Tryz.ntmps34
theorem F36 : Fun Tryz.prog 36 20 v36 c36 o36 := Fun.mkA Tryz.func36 Tryz.ntmps36
theorem F37 : Fun Tryz.prog 37 17 v37 c37 o37 := Fun.mkA Tryz.func37 Tryz.ntmps37
theorem F49 : Fun Tryz.prog 49 7 v49 c49 o49 := Fun.mkA Tryz.func49 Tryz.ntmps49
theorem F40 : Fun Tryz.prog 40 13 v40 c40 o40 := Fun.mkA Tryz.func40 Tryz.ntmps40
theorem F70 : Fun Tryz.prog 70 15 v70 c70 o70 := Fun.mkA Tryz.func70 Tryz.ntmps70
theorem F10 : Fun Tryz.prog 10 56 v10 c10 o10 := Fun.mkA Tryz.func10 Tryz.ntmps10
theorem F12 : Fun Tryz.prog 12 8 v12 c12 o12 := Fun.mkA Tryz.func12 Tryz.ntmps12
def cellL (l : Lg) (A : Option Addr) (c : Nat) : List Value := [.int .i64 l.limit, .int .i64 l.start, .slice A l.segs.length c]
def LE (G : Nat → Option Obj) (l : Lg) (cs : List Value) : Prop := ∃ A c, cs = cellL l A c ∧ SlV G (SE G) 2 (.slice A l.segs.length c) l.segs ∧ I64 l.limit ∧ I64 l.start
def smL (l : List Sg) : Prop := ∀ s ∈ l, s.bytes.length ≤ 100000
theorem SlSE.le {G G' : Nat → Option Obj} (hg : Gle G G') {v : Value} {l : List Sg} (h : SlV G (SE G) 2 v l) : SlV G' (SE G') 2 v l := by
 obtain ⟨A, c, h1, h2, h3, h4⟩ := h
 exact ⟨A, c, h1, h2, h3, h4.le hg fun _ _ h => SE.le hg h⟩
theorem LE.le {G G' : Nat → Option Obj} (hg : Gle G G') {l : Lg} {cs : List Value} (h : LE G l cs) : LE G' l cs := by
 obtain ⟨A, c, h1, h2, h3⟩ := h
 exact ⟨A, c, h1, SlSE.le hg h2, h3⟩
theorem offset_ok (n : Int) (G : Nat → Option Obj) : FnS Tryz.prog 64 #[.int .i64 n] G (.bool (inO n)) := by
 refine F64.fnS (by simp) (go_of ?_)
 unfold c64
 intros; refine gr 0 0 ?_; refine sJ c64r0.eq_1 ?_
 intros; refine gr 3 9 ?_; refine sJ c64r1.eq_1 ?_
 refine gd (fun h => ?_) (fun h => ?_)
 ·have h := of_decide_eq_true h
  refine sI ?_
  intros; refine rV ?_; simp only [push_cast, Nat.reduceBEq]
  rw [inO, decide_eq_true h, Bool.true_and]
 ·have h := of_decide_eq_false h
  refine sI ?_
  intros; refine rV ?_; simp only [push_cast, Nat.reduceBEq]
  rw [inO, decide_eq_false h, Bool.false_and]
theorem may_ok (a b : Int) (G : Nat → Option Obj) : FnS Tryz.prog 34 #[.int .i64 a, .int .i64 b] G (.bool (mayO a b)) := by
 refine F34.fnS (by simp) (go_of ?_)
 unfold c34
 intros; refine gr 0 0 ?_; refine sJ c34r0.eq_1 ?_
 intros; refine gr 5 15 ?_; refine sJ c34r1.eq_1 ?_
 refine gd (fun h => ?_) (fun h => ?_)
 ·refine sI ?_
  refine gd (fun h2 => ?_) (fun h2 => ?_)
  ·refine sI ?_
   refine (offset_ok _ _ _ _).mono ?_; rintro _ _ ⟨rfl, rfl⟩; refine sI ?_
   intros; refine rV ?_; simp only [push_cast, Nat.reduceBEq]
   rw [mayO, h, h2, Bool.true_and, Bool.true_and]
  ·refine sI ?_
   intros; refine rV ?_; simp only [push_cast, Nat.reduceBEq]
   rw [mayO, h2, Bool.and_false, Bool.false_and]
 ·refine sI ?_
  intros; refine rV ?_; simp only [push_cast, Nat.reduceBEq]
  rw [mayO, h, Bool.false_and, Bool.false_and]
theorem whole_ok (s : Sg) (cs : List Value) (G : Nat → Option Obj) (hs : SE G s cs) (hb : s.bytes.length ≤ 1000000) : FnS Tryz.prog 36 #[.agg cs.toArray] G (.bool (wholeB s)) := by
 have hscan := Scan_ok s cs G hs hb
 obtain ⟨A, c, rfl, hl, hi⟩ := hs
 have hd : decide (((goodB s : Nat) : Int) = ((s.bytes.length : Nat) : Int)) = decide (goodB s = s.bytes.length) := decide_eq_decide.2 (by omega)
 refine F36.fnS (by simp) (go_of ?_)
 unfold c36
 unfold cellS at hscan ⊢
 intros; refine gr 0 0 ?_; refine sJ c36r0.eq_1 ?_
 intros; refine gr 5 10 ?_; refine sJ c36r1.eq_1 ?_
 refine (hscan _ _).mono ?_
 rintro r h' ⟨G1, L', rfl, hg1, u, zc, rfl, hzc, rfl⟩
 refine sI ?_
 intros; refine gr 11 20 ?_; refine sJ c36r2.eq_1 ?_
 refine (offset_ok _ _ _ _).mono ?_; rintro _ _ ⟨rfl, rfl⟩; refine sI ?_
 refine gd (fun k1 => ?_) (fun k1 => ?_)
 ·refine sJ @hd ?_
  intros; refine rV ?_; simp only [push_cast, Nat.reduceBEq]
  rw [wholeB, k1, Bool.true_and]
 ·refine sI ?_
  intros; refine rV ?_; simp only [push_cast, Nat.reduceBEq]
  rw [wholeB, k1, Bool.false_and]
theorem follows_ok (s t : Sg) (cs ds : List Value) (G : Nat → Option Obj) (hs : SE G s cs) (ht : SE G t ds) (hb : s.bytes.length ≤ 1000000) : FnS Tryz.prog 37 #[.agg cs.toArray, .agg ds.toArray] G (.bool (folB s t)) := by
 have hend := End_ok s cs G hs hb
 obtain ⟨A, c, rfl, hl, hi⟩ := hs
 obtain ⟨B, d, rfl, hm, hj⟩ := ht
 refine F37.fnS (by simp) (go_of ?_)
 unfold c37
 unfold cellS at hend ⊢
 intros; refine gr 0 0 ?_; refine sJ c37r0.eq_1 ?_
 (intros; try refine go_st ?_); refine go_x _ (List.Sublist.refl _) (by decide) ?_; refine sJ c37r1.eq_1 ?_
 refine gx (fun k1 => ?_) (fun k1 => ?_)
 ·refine sI ?_
  refine (hend _ _).mono ?_; rintro _ _ ⟨rfl, rfl⟩; refine sI ?_
  intros; refine rV ?_; simp only [push_cast, Nat.reduceBEq]
  rw [folB, k1, Bool.true_and]
 ·refine sI ?_
  intros; refine rV ?_; simp only [push_cast, Nat.reduceBEq]
  rw [folB, k1, Bool.false_and]
theorem last_ok (l : Lg) (A : Option Addr) (c : Nat) (G : Nat → Option Obj) (hl : l.segs.length ≤ 1000000) : FnS Tryz.prog 49 #[.agg #[.int .i64 l.limit, .int .i64 l.start, .slice A l.segs.length c]] G (.int .i64 ((l.segs.length : Int) - 1)) := by
 have hw : IntKind.i64.wrap ((l.segs.length : Int) - 1) = (l.segs.length : Int) - 1 := by rw [w64_id] <;> omega
 refine F49.fnS (by simp) (go_of ?_)
 unfold c49
 intros; refine gr 0 0 ?_; refine sJ c49r0.eq_1 ?_
 intros; refine gr 4 7 ?_; refine sJ2 c49r1.eq_1 @hw ?_
 intros; refine rV ?_; simp only [push_cast, Nat.reduceBEq]
theorem end_ok (l : Lg) (cs : List Value) (G : Nat → Option Obj) (hl : LE G l cs) (hb : smL l.segs) (hn : l.segs ≠ []) (hm : l.segs.length ≤ 1000000) : FnS Tryz.prog 40 #[.agg cs.toArray] G (.int .i64 (endL l)) := by
 obtain ⟨A, c, rfl, hsl, hi, hj⟩ := hl
 obtain ⟨A0, c0, he, hc, hmx, hA⟩ := hsl
 cases he
 obtain ⟨s, e1, e2, e3⟩ := last_split hn
 have h0 : 0 < l.segs.length := List.length_pos_iff.2 hn
 refine F40.fnS (by simp) (go_of ?_)
 unfold c40 cellL
 intros; refine gr 0 0 ?_; refine sJ c40r0.eq_1 ?_
 (intros; try refine go_st ?_); refine go_x _ (List.Sublist.refl _) (by decide) ?_; refine sJ c40r1.eq_1 ?_
 refine (last_ok l A c _ hm _ _).mono ?_; rintro _ _ ⟨rfl, rfl⟩; refine sI ?_
 refine hA.y_ld e1 (by omega) rfl ?_
 rintro a1 ha1 cs hse
 have hend := End_ok s cs G hse (by have := hb s (List.mem_of_getElem? e1); omega)
 obtain ⟨B, d, rfl, -⟩ := hse
 unfold cellS at hend ⊢
 refine sI ?_
 refine (hend _ _).mono ?_; rintro _ _ ⟨rfl, rfl⟩; refine sI ?_
 intros; refine rV ?_; simp only [push_cast, Nat.reduceBEq]
 rw [endL, e3]
 rfl
theorem between_ok (l : Lg) (off : Int) (cs : List Value) (G : Nat → Option Obj) (hl : LE G l cs) (hb : smL l.segs) (hn : l.segs ≠ []) (hm : l.segs.length ≤ 1000000) : FnS Tryz.prog 70 #[.agg cs.toArray, .int .i64 off] G (.bool (betw l off)) := by
 have hend := end_ok l cs G hl hb hn hm
 obtain ⟨A, c, rfl, hsl, hi, hj⟩ := hl
 refine F70.fnS (by simp) (go_of ?_)
 unfold c70
 unfold cellL at hend ⊢
 intros; refine gr 0 0 ?_; refine sJ c70r0.eq_1 ?_
 intros; refine gr 6 15 ?_; refine sJ c70r1.eq_1 ?_
 refine gd (fun k1 => ?_) (fun k1 => ?_)
 ·refine sI ?_
  refine (hend _ _).mono ?_; rintro _ _ ⟨rfl, rfl⟩; refine sI ?_
  intros; refine rV ?_; simp only [push_cast, Nat.reduceBEq]
  rw [betw, k1, Bool.true_and]
 ·refine sI ?_
  intros; refine rV ?_; simp only [push_cast, Nat.reduceBEq]
  rw [betw, k1, Bool.false_and]
theorem endP_pred {l : List Sg} {k : Nat} {a : Sg} (hk : 0 < k) (h : l[k - 1]? = some a) : endP none (l.take k) = some a := by
 have := endP_take none h
 rwa [Nat.sub_add_cancel hk] at this
theorem chkL_no {l : Lg} {k : Nat} {s : Sg} (hs : l.segs[k]? = some s) (h : ¬ fitS l.limit (endP none (l.segs.take k)) s) : chkL l = 1 := by
 unfold chkL
 rw [if_neg]
 rintro ⟨-, -, h3⟩
 exact h ((okS_take hs).1 (okS_pre h3 (k + 1))).2
theorem ChkL_ok (l : Lg) (cs : List Value) (G : Nat → Option Obj) (hl : LE G l cs) (hb : smL l.segs) : FnS Tryz.prog 10 #[.agg cs.toArray] G (.int .i64 (chkL l)) := by
 obtain ⟨A, c, rfl, hsl, hi, hj⟩ := hl
 obtain ⟨A0, c0, he, hc, hmx, hA⟩ := hsl
 cases he
 refine F10.fnS (by simp) (go_of ?_)
 unfold c10 cellL
 intros; refine gr 0 0 ?_; refine sJ c10r0.eq_1 ?_
 intros; refine gr 6 16 ?_; refine sJ c10r1.eq_1 ?_
 refine (may_ok _ _ _ _ _).mono ?_; rintro _ _ ⟨rfl, rfl⟩; refine sI ?_
 refine gd (fun k1 => ?_) (fun k1 => ?_)
 ·have k1 : mayO l.limit l.start = false := by simpa using k1
  refine sI ?_
  intros; refine gc ?_; refine sI ?_
  intros; refine gr 0 0 ?_; refine sJ c10r2.eq_1 ?_
  intros; refine rV ?_; simp only [push_cast, Nat.reduceBEq]
  rw [chkL, if_neg (by rw [k1]; simp)]
 have k1 : mayO l.limit l.start = true := by simpa using k1
 refine sI ?_
 intros; refine gc ?_; refine sI ?_
 refine gb (fun k2 => ?_) (fun k2 => ?_)
 ·have k2 : l.segs = [] := List.eq_nil_of_length_eq_zero (by have := of_decide_eq_true k2; omega)
  intros; refine gr 0 0 ?_; refine sJ c10r2.eq_1 ?_
  intros; refine rV ?_; simp only [push_cast, Nat.reduceBEq]
  rw [chkL, if_neg (by rw [k2]; simp)]
 have k2 : l.segs ≠ [] := fun h => by rw [h] at k2; simp at k2
 intros; refine gN ?_
 intros; refine gr 0 0 ?_; refine sJ c10r3.eq_1 ?_
 intros
 refine go_cut (fun e h => okS l.limit none l.segs ∧ h = ⟨G, [.reg 1 [.int .i64 l.limit, .int .i64 l.start, .slice A l.segs.length c]], []⟩) ?_ ?_
 ·(intros; try refine go_st ?_)
  refine go_loop (fun e h => ∃ k : Nat, (k ≤ l.segs.length ∧ okS l.limit none (l.segs.take k)) ∧ e 20 = .int .i64 k ∧ e 19 = .int .i64 l.segs.length ∧ e 18 = .slice A l.segs.length c ∧ h = ⟨G, [.reg 1 [.int .i64 l.limit, .int .i64 l.start, .slice A l.segs.length c]], []⟩) (fun e h => l.segs.length - iv (e 20)) ?_ ?_
  ·exact ⟨0, ⟨Nat.zero_le _, trivial⟩, eE, eE, eE, rfl⟩
  rintro e h ⟨k, ⟨hk, hok⟩, e20, e19, e18, rfl⟩
  refine go_keep [18, 19, 20] ?_
  refine sJ3 @e18 @e19 @e20 ?_
  intros; refine gr 0 0 ?_; refine sJ c10r4.eq_1 ?_
  intros; refine gc ?_; refine sI ?_
  refine gb (fun ht => ?_) (fun ht => ?_)
  ·have ht : k < l.segs.length := by have := of_decide_eq_true ht; omega
   have hw := inc_i k c (by omega) hmx
   obtain ⟨s, hs⟩ : ∃ s, l.segs[k]? = some s := ⟨l.segs[k], List.getElem?_eq_getElem (by omega)⟩
   have hbs := hb s (List.mem_of_getElem? hs)
   intros; refine gN ?_
   intros; refine gr 22 25 ?_; refine sJ c10r5.eq_1 ?_
   refine hA.x_ld hs rfl rfl ?_
   rintro a1 ha1 cs hse
   have hse0 := hse
   have hwh := whole_ok s cs G hse (by omega)
   obtain ⟨B, d, rfl, hsb, hsi⟩ := hse
   unfold cellS at hwh hse0 ⊢
   refine sI ?_
   have hno : ∀ (fr : List Td) (e : Env) (X : List Kx.Item), ¬ fitS l.limit (endP none (l.segs.take k)) s → go none Tryz.prog 56 v10.1 v10.2 (retQ o10 fun v h => v = .int .i64 (chkL l)) (Td.s ((SC.reg false c10r7).seq .ret) :: fr) e ⟨G, X, []⟩ := fun fr e X hn => by
    intros; refine gr 0 0 ?_; refine sJ c10r7.eq_1 ?_
    intros; refine rV ?_; simp only [push_cast, Nat.reduceBEq]
    rw [chkL_no hs hn]
   have hnx : fitS l.limit (endP none (l.segs.take k)) s → okS l.limit none (l.segs.take (k + 1)) := fun h => (okS_take hs).2 ⟨hok, h⟩
   (intros; try refine go_st ?_); refine go_x _ (List.Sublist.refl _) (by decide) ?_; refine sJ c10r6.eq_1 ?_
   refine gx (fun k3 => ?_) (fun k3 => ?_)
   ·have k3 := of_decide_eq_true k3
    refine sI ?_
    intros; refine gc ?_; refine sI ?_
    exact hno _ _ _ fun h => by have := h.1.2; omega
   have k3 := of_decide_eq_false k3
   refine sI ?_
   refine (hwh _ _).mono ?_; rintro _ _ ⟨rfl, rfl⟩; refine sI ?_
   refine gx (fun k4 => ?_) (fun k4 => ?_)
   ·have k4 : wholeB s = false := by simpa using k4
    refine sI ?_
    intros; refine gc ?_; refine sI ?_
    exact hno _ _ _ fun h => by have := h.1.1; rw [k4] at this; cases this
   have k4 : wholeB s = true := by simpa using k4
   refine sI ?_
   refine gx (fun k5 => ?_) (fun k5 => ?_)
   ·have k5 : 0 < k := by have := of_decide_eq_true k5; omega
    have hw1 : IntKind.i64.wrap ((k : Int) - 1) = (k : Int) - 1 := by unfold maxLen at hmx; rw [w64_id] <;> omega
    obtain ⟨p, hp⟩ : ∃ p, l.segs[k - 1]? = some p := ⟨l.segs[k - 1], List.getElem?_eq_getElem (by omega)⟩
    have hbp := hb p (List.mem_of_getElem? hp)
    have hep := endP_pred k5 hp
    refine sJ @hw1 ?_
    refine hA.y_ld hp (by omega) rfl ?_
    rintro a2 ha2 cs2 hpe
    have hfo := follows_ok p s cs2 _ G hpe hse0 (by omega)
    obtain ⟨B2, d2, rfl, -⟩ := hpe
    unfold cellS at hfo ⊢
    refine sI ?_
    refine (hfo _ _).mono ?_; rintro _ _ ⟨rfl, rfl⟩; refine sI ?_
    intros; refine gc ?_; refine sI ?_
    refine gb (fun k6 => ?_) (fun k6 => ?_)
    ·have k6 : folB p s = false := by simpa using k6
     exact hno _ _ _ fun h => by have := h.2 p hep; rw [k6] at this; cases this
    ·have k6 : folB p s = true := by simpa using k6
     intros; refine gN ?_
     refine go_ghost (ghost_sub (L' := [.reg 1 [.int .i64 l.limit, .int .i64 l.start, .slice A l.segs.length c]]) (.cons _ (List.Sublist.refl _))) ?_
     intros; refine gr 51 52 ?_; refine sJ2 c10r8.eq_1 @hw ?_
     (intros; try refine go_st ?_)
     refine go_l ⟨⟨k + 1, ⟨by omega, hnx ⟨⟨k4, by omega⟩, fun a ha => by rw [hep] at ha; cases ha; exact k6⟩⟩, eE, eE, eE, rfl⟩, ?_⟩
     refine sI ?_
     omega
   ·have k5 : k = 0 := by have := of_decide_eq_false k5; omega
    refine sI ?_
    intros; refine gc ?_; refine sI ?_
    refine go_ghost (ghost_sub (L' := [.reg 1 [.int .i64 l.limit, .int .i64 l.start, .slice A l.segs.length c]]) (.cons _ (List.Sublist.refl _))) ?_
    intros; refine gr 51 52 ?_; refine sJ2 c10r8.eq_1 @hw ?_
    (intros; try refine go_st ?_)
    refine go_l ⟨⟨k + 1, ⟨by omega, hnx ⟨⟨k4, by omega⟩, fun a ha => by rw [k5] at ha; cases ha⟩⟩, eE, eE, eE, rfl⟩, ?_⟩
    refine sI ?_
    omega
  ·have ht : k = l.segs.length := by have := of_decide_eq_false ht; omega
   subst ht
   rw [List.take_length] at hok
   refine go_exit ?_
   refine sI ?_
   intros; refine gN ?_
   exact go_l ⟨hok, rfl⟩
 rintro e h ⟨hok, rfl⟩
 refine go_keep [] ?_
 intros
 have hd : decide ((l.segs.length : Int) > 256) = decide (256 < l.segs.length) := decide_eq_decide.2 (by omega)
 intros; refine gr 53 55 ?_; refine sJ c10r9.eq_1 ?_
 intros; refine gc ?_; refine sI ?_
 refine gb (fun k3 => ?_) (fun k3 => ?_)
 ·have k3 := of_decide_eq_true k3
  intros; refine gr 0 0 ?_; refine sJ c10r10.eq_1 ?_
  intros; refine rV ?_; simp only [push_cast, Nat.reduceBEq]
  rw [chkL, if_pos ⟨k1, k2, hok⟩, if_pos (by omega)]
 ·have k3 := of_decide_eq_false k3
  intros; refine gN ?_
  intros; refine gr 0 0 ?_; refine sJ c10r11.eq_1 ?_
  intros; refine rV ?_; simp only [push_cast, Nat.reduceBEq]
  rw [chkL, if_pos ⟨k1, k2, hok⟩, if_neg (by omega)]
theorem CEnd_ok (l : Lg) (cs : List Value) (G : Nat → Option Obj) (hl : LE G l cs) (hb : smL l.segs) (hm : l.segs.length ≤ 1000000) : FnS Tryz.prog 12 #[.agg cs.toArray] G (.int .i64 (EndL l)) := by
 have hchk := ChkL_ok l cs G hl hb
 have hend := end_ok l cs G hl hb
 obtain ⟨A, c, rfl, hsl, hi, hj⟩ := hl
 refine F12.fnS (by simp) (go_of ?_)
 unfold c12
 unfold cellL at hchk hend ⊢
 intros; refine gr 0 0 ?_; refine sJ c12r0.eq_1 ?_
 intros; refine gr 3 5 ?_; refine sJ c12r1.eq_1 ?_
 refine (hchk _ _).mono ?_; rintro _ _ ⟨rfl, rfl⟩; refine sI ?_
 intros; refine gc ?_; refine sI ?_
 refine gb (fun k1 => ?_) (fun k1 => ?_)
 ·have k1 := of_decide_eq_true k1
  intros; refine gr 0 0 ?_; refine sJ c12r2.eq_1 ?_
  intros; refine rV ?_; simp only [push_cast, Nat.reduceBEq]
  rw [EndL, if_neg k1]
 ·have k1 : chkL l = 0 := by simpa using k1
  intros; refine gN ?_
  intros; refine gr 6 8 ?_; refine sJ c12r3.eq_1 ?_
  refine (hend (chkL_0 k1).2.1 hm _ _).mono ?_; rintro _ _ ⟨rfl, rfl⟩; refine sI ?_
  intros; refine rV ?_; simp only [push_cast, Nat.reduceBEq]
  rw [EndL, if_pos k1]
end Go.Proofs.YtppgnokhdpaljaaGreat
namespace Go.Proofs.YtppgnokhdpaljaaGreat
open Go Go.Kx Go.RowKit
theorem opens_segs (W : World) : Opens Tryz.prog W 22 (fun (l : List Sg) cs => ∃ A c, cs = [.slice A l.length c] ∧ l.length ≤ c ∧ c ≤ maxLen ∧ SlA (allG W) (SE (allG W)) 2 A l) :=
 opens_slice Tryz.underlying22 (by kernel_rfl) (opens_seg W)
theorem opens_log (W : World) : Opens Tryz.prog W 24 (LE (allG W)) := fun H enc fuel cs x hx => by
 obtain ⟨hl, hf⟩ := opens_fields Tryz.underlying24 (by kernel_rfl) (by kernel_rfl) hx
 obtain ⟨v0, _, _, c0, t0⟩ := hf 0 _ rfl
 obtain ⟨v1, _, _, c1, t1⟩ := hf 1 _ rfl
 obtain ⟨v2, _, _, c2, t2⟩ := hf 2 _ rfl
 obtain ⟨n0, e0, w0⟩ := (opens_int Tryz.underlying3).at_ t0
 obtain ⟨n1, e1, w1⟩ := (opens_int Tryz.underlying3).at_ t1
 obtain ⟨n2, A, c, e2, w2⟩ := (opens_segs W).at_ t2
 cases e0; cases e1; cases e2
 refine ⟨⟨n0, n1, n2⟩, A, c, ?_, ⟨A, c, rfl, w2⟩, wf_i64 w0, wf_i64 w1⟩
 match cs, hl with
 | [_, _, _], _ => cases c0; cases c1; cases c2; rfl
end Go.Proofs.YtppgnokhdpaljaaGreat
namespace Go.Proofs.YtppgnokhdpaljaaGreat
open Go Go.Kx
theorem F52 : Fun Tryz.prog 52 8 v52 c52 o52 := Fun.mkA Tryz.func52 Tryz.ntmps52
theorem F51 : Fun Tryz.prog 51 11 v51 c51 o51 := Fun.mkA Tryz.func51 Tryz.ntmps51
theorem F8 : Fun Tryz.prog 8 17 v8 c8 o8 := Fun.mkA Tryz.func8 Tryz.ntmps8
theorem F19 : Fun Tryz.prog 19 89 v19 c19 o19 := Fun.mkA Tryz.func19 Tryz.ntmps19
def LgR (p : Lg × Int) (G : Nat → Option Obj) (r : Value) : Prop := ∃ cs, r = .tuple #[.agg cs.toArray, .int .i64 p.2] ∧ LE G p.1 cs
theorem slN {α : Type} {G : Nat → Option Obj} {E : α → List Value → Prop} {sz : Nat} : SlV G E sz (.slice none 0 0) [] := ⟨none, 0, rfl, Nat.le_refl _, Nat.zero_le _, fun i x hx => by simp at hx⟩
theorem i64_0 : I64 0 := by unfold I64; decide
theorem noneL_r {p : Int} {G : Nat → Option Obj} : LgR (noneL, p) G (.tuple #[.agg #[.int .i64 0, .int .i64 0, .slice none 0 0], .int .i64 p]) := ⟨_, rfl, none, 0, rfl, slN, i64_0, i64_0⟩
theorem SE1 : ∀ {G : Nat → Option Obj} (x : Sg) cs, SE G x cs → ∀ u ∈ cs, u.oneCell' = true := fun x cs h u hu => by
 obtain ⟨A, c, rfl, -⟩ := h
 simp [cellS] at hu
 rcases hu with rfl | rfl <;> rfl
theorem CloneS_ok (l : List Sg) (v : Value) (G : Nat → Option Obj) (hl : SlV G (SE G) 2 v l) (hb : l.length ≤ 100000) : FnO Tryz.prog 52 #[v] G [] (fun _ L' r => OwnL (SE G) 55 2 l L' r) := by
 refine F52.fnO (by simp) noRegs_nil (go_of ?_)
 have hl0 := hl
 obtain ⟨A, c, rfl, hc, hm, hA⟩ := hl
 unfold c52
 intros; refine gr 0 0 ?_; refine sJ c52r0.eq_1 ?_
 intros; refine gr 3 4 ?_; refine sJ c52r1.eq_1 ?_
 intros; refine gc ?_; refine sI ?_
 refine gb (fun ht => ?_) (fun ht => ?_)
 ·intros; refine gr 0 0 ?_; refine sJ c52r2.eq_1 ?_
  (intros; try refine go_st ?_)
  have hA0 : l = [] := by
   match l, hA with
   | [], _ => rfl
   | x :: xs, hA => obtain ⟨a, _, ha, _⟩ := hA 0 x rfl; subst ha; cases ht
  subst hA0
  refine go_ghost (ghost_nil none 55 2) ?_
  refine go_ret (retQ_o _ rfl (List.Sublist.refl _) (noRegs_row noRegs_nil) ?_)
  exact ⟨[], .nil, rfl⟩
 ·intros; refine gN ?_
  intros; refine gr 5 8 ?_; refine sJ c52r3.eq_1 ?_
  intro b hb'
  refine apX_v (.inr ⟨⟨_, rfl⟩, rfl, rfl, rfl, rfl⟩) hl0 rfl SE1 ⟨by omega, by unfold maxLen; omega⟩ fun ys A c hc => ?_
  simp only [Nat.zero_add]
  refine sI ?_
  (intros; try refine go_st ?_)
  refine go_ret (retQ_o _ rfl (List.Sublist.refl _) (noRegs_row noRegs_nil) ?_)
  exact ⟨ys, hc, rfl⟩
theorem ownN_sl {α : Type} {P : Program} {f : FuncId} {args : Array Value} {G : Nat → Option Obj} {E : α → List Value → Prop} {et sz : Nat} {zs : List α} (hf : FnO P f args G [] (fun _ L' r => OwnL E et sz zs L' r)) :
  FnO P f args G [] (fun _ L' r => ∃ A c ys, r = .slice A zs.length c ∧ (zs.length ≤ c ∧ c ≤ maxLen) ∧ Cells E sz zs ys ∧ L' = [.row r et sz zs.length ys]) := fun L D =>
 (hf L D).gx fun v h' ⟨G', L', he, hg, ys, hc, hL⟩ => by
  subst he hL
  exact (gx_knowS (.head _)).mono fun h' ⟨h1, A, c, h2, h3, h4⟩ => ⟨G', _, h1, hg, A, c, ys, h2, ⟨h3, h4⟩, hc, rfl⟩
theorem with_ok (a b : Int) (B C : Option Addr) (m d m' d' : Nat) (G : Nat → Option Obj) : FnS Tryz.prog 51 #[.agg #[.int .i64 a, .int .i64 b, .slice B m d], .slice C m' d'] G (.agg #[.int .i64 a, .int .i64 b, .slice C m' d']) := by
 refine F51.fnS (by simp) (go_of ?_)
 unfold c51
 intros; refine gr 0 0 ?_; refine sJ c51r0.eq_1 ?_
 intros; refine gr 6 11 ?_; refine sJ c51r1.eq_1 ?_
 intros; refine rV ?_; simp only [push_cast, Nat.reduceBEq]
theorem sl_i {G : Nat → Option Obj} {A : Option Addr} {l : List Sg} (h : SlA G (SE G) 2 A l) : ∀ s ∈ l, I64 s.base := fun s hs => by
 obtain ⟨i, hi⟩ := List.mem_iff_getElem?.1 hs
 obtain ⟨a, cs, _, _, ⟨_, _, _, _, h⟩, _⟩ := h i s hi
 exact h
theorem app2 {α : Type} {E : α → List Value → Prop} {P : Program} {h : H} {d sz et nb : Nat} {l : List SI} {e : Env} {K : Env → H → Prop} {u : Value} {b : Nat} {zs : List α} {zc cs : List Value} {L2 : List Kx.Item} {x : α} (hL : h.L = .row u et sz zs.length zc :: .row (.slice (some ⟨b, 0, none⟩) 1 1) et sz 1 cs :: L2)
  (hE : E x cs) (hl : cs.length = sz) (h1 : ∀ u ∈ cs, u.oneCell' = true) (hc : Cells E sz zs zc) (hz : zs.length ≤ 1000000) (hnb : nb ≤ 1000)
  (hk : ∀ A' c' zc', Cells E sz (zs ++ [x]) zc' → kR P l d e K (.slice A' (zs ++ [x]).length c') ⟨h.G, .row (.slice A' (zs ++ [x]).length c') et sz (zs ++ [x]).length zc' :: .row (.slice (some ⟨b, 0, none⟩) 1 1) et sz 1 cs :: L2, h.D⟩) :
  apX P u (.slice (some ⟨b, 0, none⟩) 1 1) et sz nb d l e h K := by
 refine ⟨[], zs.length, zc, .row (.slice (some ⟨b, 0, none⟩) 1 1) et sz 1 cs :: L2, 1, cs, .inl hL, srcH_row (h := h) (by rw [hL]; exact .tail _ (.head _)) h1 (by rw [hl, Nat.one_mul]), ⟨?_, by unfold maxLen; omega⟩, fun A' c' => ?_⟩
 ·have : (zs.length + 1) * nb ≤ 1000001 * 1000 := Nat.mul_le_mul (by omega) hnb
  omega
 ·have := hk A' c' (zc ++ cs) (hc.app (.one hE hl))
  simp only [List.length_append, List.length_cons, List.length_nil, Nat.zero_add] at this
  exact this
theorem calls_gx0 {P : Program} {f : FuncId} {args : Array Value} {h : H} {R : Value → H → Prop} {M : H → Prop} (hE : Enters P f) (hg : GhostX h M) (hc : ∀ h', M h' → CallsH P f args h' R) : CallsH P f args h R :=
 ⟨hE, fun β w hs => by
  obtain ⟨h', m, s1, t1, d1, r1⟩ := hg β w hs
  exact ((hc h' m).2 β w s1).mono fun _ _ ⟨v, h2, a, ⟨b1, b2⟩, c, d, r⟩ => ⟨v, h2, a, ⟨b1.trans d1, r1.trans b2⟩, c, t1.trans d, r⟩⟩
theorem i64_lim {a b : Int} (h : mayO a b = true) : I64 a ∧ I64 b := by
 have := mayO_iff.1 h
 have h2 := inO_iff.1 this.2
 constructor <;> (unfold I64; omega)
theorem CNew_ok (limit start : Int) (G : Nat → Option Obj) : FnD Tryz.prog 8 #[.int .i64 limit, .int .i64 start] G (LgR (newL limit start)) := by
 refine F8.fnD (by simp) (go_of ?_)
 unfold c8
 intros; refine gr 0 0 ?_; refine sJ c8r0.eq_1 ?_
 intros; refine gr 6 9 ?_; refine sJ c8r1.eq_1 ?_
 refine (may_ok _ _ _ _ _).mono ?_; rintro _ _ ⟨rfl, rfl⟩; refine sI ?_
 intros; refine gc ?_; refine sI ?_
 refine gb (fun h => ?_) (fun h => ?_)
 ·have h : mayO limit start = false := by simpa using h
  intros; refine gr 10 11 ?_; refine sJ c8r2.eq_1 ?_
  intros; refine rV ?_; simp only [push_cast, Nat.reduceBEq]
  rw [newL, h]
  exact noneL_r
 ·have h : mayO limit start = true := by simpa using h
  have hi := i64_lim h
  intros; refine gN ?_
  intros; refine gr 11 17 ?_; refine sJ c8r3.eq_1 ?_
  intro b hb
  refine sI ?_
  intros; try refine go_seq ?_
  refine go_gx (gx_slv_at [] _ (by decide) (Cells.one (E := SE G) (x := ⟨start, []⟩) ⟨none, 0, rfl, SB.nil, hi.2⟩ rfl)) ?_
  rintro h' ⟨G1, rfl, hg1, hv1⟩
  intros; refine rV ?_; simp only [push_cast, Nat.reduceBEq]
  rw [newL, if_pos h]
  exact ⟨_, rfl, _, 1, rfl, hv1.le (.refl _) fun _ _ h => SE.le hg1 h, hi.1, hi.2⟩
set_option maxHeartbeats 1000000 in
theorem CAppend_ok (l : Lg) (x : Batch) (cs ds : List Value) (G : Nat → Option Obj) (hl : LE G l cs) (hb : smL l.segs) (hm : l.segs.length ≤ 1000) (hx : BE G x ds) :
  FnD Tryz.prog 19 #[.agg cs.toArray, .agg ds.toArray] G (LgR (appL l x)) := by
 have hl0 := hl
 have hx0 := hx
 have hchk := ChkL_ok l cs G hl hb
 have hend := end_ok l cs G hl hb
 have hbc := BCheck_ok x ds G hx
 have hsz := Size_ok x ds G hx
 obtain ⟨A, c, rfl, hsl, hi, hj⟩ := hl
 obtain ⟨A0, c0, he, hc, hmx, hA⟩ := hsl
 cases he
 obtain ⟨B, d, rfl, -⟩ := hx
 refine F19.fnD (by simp) (go_of ?_)
 unfold c19
 unfold cellL at hchk hend hl0 ⊢
 unfold cellH at hbc hsz hx0 ⊢
 intros; refine gr 0 0 ?_; refine sJ c19r0.eq_1 ?_
 intros; refine gr 11 13 ?_; refine sJ c19r1.eq_1 ?_
 refine (hchk _ _).mono ?_; rintro _ _ ⟨rfl, rfl⟩; refine sI ?_
 intros; refine gr 13 14 ?_; refine sJ c19r2.eq_1 ?_
 intros
 refine go_cut (fun e h => e 6 = .int .i64 (if chkL l = 0 then errB x else chkL l) ∧ h = ⟨G, [.reg 4 [.int .i64 0, .int .i64 0, .slice none 0 0], .reg 3 [.int .i64 x.base, .int .i64 x.last, .int .i64 x.src, .int .i64 x.epoch, .int .i64 x.pid, .int .i64 x.gen, .int .i64 x.seq, .bool x.txn, .int .i64 x.ctl, .slice B x.recs.length d], .reg 2 [.int .i64 l.limit, .int .i64 l.start, .slice A l.segs.length c]], []⟩) ?_ ?_
 ·intros; refine gc ?_; refine sI ?_
  refine gb (fun k1 => ?_) (fun k1 => ?_)
  ·have k1 := of_decide_eq_true k1
   intros; refine gr 15 17 ?_; refine sJ c19r3.eq_1 ?_
   refine (hbc _ _).mono ?_; rintro _ _ ⟨rfl, rfl⟩; refine sI ?_
   (intros; try refine go_st ?_)
   have h6 : (if chkL l = 0 then errB x else chkL l) = errB x := if_pos k1
   exact go_l ⟨(eJ @h6), rfl⟩
  ·have k1 := of_decide_eq_false k1
   (intros; try refine go_st ?_)
   have h6 : (if chkL l = 0 then errB x else chkL l) = chkL l := if_neg k1
   exact go_l ⟨(eJ @h6), rfl⟩
 rintro e h ⟨e6, rfl⟩
 refine go_keep [6] ?_
 refine sJ @e6 ?_
 have hno : ¬ (chkL l = 0 ∧ errB x = 0) → ¬ (if chkL l = 0 then errB x else chkL l) = 0 := fun h h2 => by
  by_cases k : chkL l = 0
  ·rw [if_pos k] at h2; exact h ⟨k, h2⟩
  ·rw [if_neg k] at h2; exact k h2
 have happ : ¬ (chkL l = 0 ∧ errB x = 0) → appL l x = (noneL, if chkL l = 0 then errB x else chkL l) := fun h => by
  unfold appL
  by_cases k : chkL l = 0
  ·rw [if_pos k, if_pos k, if_neg fun h2 => h ⟨k, h2⟩]
  ·rw [if_neg k, if_neg k]
 have hyes : chkL l = 0 ∧ errB x = 0 → (if chkL l = 0 then errB x else chkL l) = 0 := fun h => by rw [if_pos h.1, h.2]
 generalize (if chkL l = 0 then errB x else chkL l) = er at *
 intros
 intros; refine gr 18 20 ?_; refine sJ c19r4.eq_1 ?_
 intros; refine gc ?_; refine sI ?_
 refine gb (fun k1 => ?_) (fun k1 => ?_)
 ·have k1 := of_decide_eq_true k1
  intros; refine gr 20 22 ?_; refine sJ c19r5.eq_1 ?_
  intros; refine rV ?_; simp only [push_cast, Nat.reduceBEq]
  rw [happ fun h => k1 (hyes h)]
  exact noneL_r
 have k1 : er = 0 := by simpa using k1
 have k2 : chkL l = 0 ∧ errB x = 0 := Decidable.not_not.1 fun h => hno h k1
 clear happ hno hyes
 obtain ⟨k0, k1⟩ := k2
 obtain ⟨c1, c2, c3, c4⟩ := chkL_0 k0
 obtain ⟨s, e1, e2, e3, e4, e5⟩ := log_last k0
 have h0 : 0 < l.segs.length := List.length_pos_iff.2 c2
 have hz : sizeB x = (bytesB x).length := by rw [sizeB, putB_0 k1]
 rw [hz] at hsz
 have hlim := mayO_iff.1 c1
 refine sI ?_
 (intros; try refine go_st ?_); refine go_x _ (List.Sublist.refl _) (by decide) ?_; refine sJ c19r6.eq_1 ?_
 refine (hend c2 (by omega) _ _).mono ?_; rintro _ _ ⟨rfl, rfl⟩; refine sI ?_
 intros; refine gc ?_; refine sI ?_
 refine gb (fun k2 => ?_) (fun k2 => ?_)
 ·have k2 := of_decide_eq_true k2
  intros; refine gr 28 29 ?_; refine sJ c19r7.eq_1 ?_
  intros; refine rV ?_; simp only [push_cast, Nat.reduceBEq]
  rw [appL, if_pos k0, if_pos k1, if_pos k2]
  exact noneL_r
 have k2 := of_decide_eq_false k2
 intros; refine gN ?_
 (intros; try refine go_st ?_); refine go_x _ (List.Sublist.refl _) (by decide) ?_; refine sJ c19r8.eq_1 ?_
 refine (hsz _ _).mono ?_; rintro _ _ ⟨rfl, rfl⟩; refine sI ?_
 intros; refine gc ?_; refine sI ?_
 refine gb (fun k3 => ?_) (fun k3 => ?_)
 ·have k3 := of_decide_eq_true k3
  intros; refine gr 35 36 ?_; refine sJ c19r9.eq_1 ?_
  intros; refine rV ?_; simp only [push_cast, Nat.reduceBEq]
  rw [appL, if_pos k0, if_pos k1, if_neg k2, if_pos k3]
  exact noneL_r
 have k3 := of_decide_eq_false k3
 intros; refine gN ?_
 intros; refine gr 36 38 ?_; refine sJ c19r10.eq_1 ?_
 refine (last_ok l A c _ (by omega) _ _).mono ?_; rintro _ _ ⟨rfl, rfl⟩; refine sI ?_
 intros
 intros; try refine go_seq ?_
 intros; try refine go_seq ?_
 refine go_cut (fun e h => ∃ (G' : Nat → Option Obj) (b8 : Nat) (A3 : Option Addr) (c3 : Nat), (Gle G G' ∧ SB G' (.slice A3 (appS s x l.limit).1.bytes.length c3) (appS s x l.limit).1.bytes) ∧ e 7 = .int .i64 ((l.segs.length : Int) - 1) ∧ e 8 = .pointer (some ⟨b8, 0, none⟩) ∧ e 9 = .int .i64 (appS s x l.limit).2 ∧ h = ⟨G', [.blk b8 [.int .i64 (appS s x l.limit).1.base, .slice A3 (appS s x l.limit).1.bytes.length c3], .reg 4 [.int .i64 0, .int .i64 0, .slice none 0 0], .reg 3 [.int .i64 x.base, .int .i64 x.last, .int .i64 x.src, .int .i64 x.epoch, .int .i64 x.pid, .int .i64 x.gen, .int .i64 x.seq, .bool x.txn, .int .i64 x.ctl, .slice B x.recs.length d], .reg 2 [.int .i64 l.limit, .int .i64 l.start, .slice A l.segs.length c]], []⟩) ?_ ?_
 ·(intros; try refine go_st ?_); refine go_z _ (List.Sublist.refl _) (by decide) ?_; refine sJ c19r11.eq_1 ?_
  refine hA.y_ld e1 (by omega) rfl ?_
  rintro a1 ha1 cs hse
  have hapd := Append_ok s x l.limit cs _ G hse (hb s (List.mem_of_getElem? e1)) hx0 hi
  obtain ⟨B1, d1, rfl, hsb, hsi⟩ := hse
  unfold cellS at hapd ⊢
  refine sI ?_
  refine ⟨?_, ?_⟩
  ·refine (ownSE_d hapd _ _).mono ?_
   rintro r h' ⟨G1, rfl, hg1, A3, c3, rfl, hs1⟩
   refine sI ?_
   refine ⟨grow_G hg1, ?_⟩
   intro b8 hb8
   refine ⟨grow_L hg1 (.cons _ (List.Sublist.refl _)), ?_⟩
   refine sI ?_
   refine stX_blk [] _ rfl (Nat.le_refl 2) ⟨rfl, rfl⟩ ?_
   refine sI ?_
   refine ⟨grow_L hg1 (.cons _ (List.Sublist.refl _)), ?_⟩
   refine sI ?_
   exact go_l ⟨G1, b8, A3, c3, ⟨hg1, hs1⟩, eE, eE, eE, rfl⟩
  ·intro b8 hb8
   refine ⟨grow_L (fun _ _ h => h) (.cons _ (List.Sublist.refl _)), ?_⟩
   refine (ownSE_d hapd _ _).mono ?_
   rintro r h' ⟨G1, rfl, hg1, A3, c3, rfl, hs1⟩
   refine sI ?_
   refine ⟨grow_L hg1 (.cons _ (List.Sublist.refl _)), ?_⟩
   refine sI ?_
   refine stX_blk [] _ rfl (Nat.le_refl 2) ⟨rfl, rfl⟩ ?_
   refine sI ?_
   refine ⟨grow_L hg1 (.cons _ (List.Sublist.refl _)), ?_⟩
   refine sI ?_
   exact go_l ⟨G1, b8, A3, c3, ⟨hg1, hs1⟩, eE, eE, eE, rfl⟩
 rintro e h ⟨G1, b8, A3, c3, ⟨hg1, hs1⟩, e7, e8, e9, rfl⟩
 refine go_keep [7, 8, 9] ?_
 refine sJ3 @e7 @e8 @e9 ?_
 intros
 refine go_gx gx_blk ?_
 rintro h' ⟨G2, rfl, hg2, f8⟩
 have hs1 := SB.le hs1 hg2
 have hg1 := hg1.trans hg2
 have ht1 : ((l.segs.length : Int) - 1).toNat = l.segs.length - 1 := by omega
 intros; refine gr 50 51 ?_; refine sJ c19r12.eq_1 ?_
 intros; refine gc ?_; refine sI ?_
 refine gb (fun k4 => ?_) (fun k4 => ?_)
 ·have k4 : (appS s x l.limit).2 = 0 := of_decide_eq_true k4
  have hsl1 : SlV G2 (SE G2) 2 (.slice A l.segs.length c) l.segs := SlSE.le hg1 ⟨A, c, rfl, hc, hmx, hA⟩
  have hpre := SlV.pre (l.segs.length - 1) hsl1 (by omega)
  have hcl := CloneS_ok (l.segs.take (l.segs.length - 1)) _ G2 hpre (by simp; omega)
  have hlk : (l.segs.take (l.segs.length - 1)).length = l.segs.length - 1 := by simp
  have hxe : appL l x = (⟨l.limit, l.start, l.segs.take (l.segs.length - 1) ++ [(appS s x l.limit).1]⟩, 0) := by
   rw [appL, if_pos k0, if_pos k1, if_neg k2, if_neg k3, e3, if_pos k4]
  have hse2 : SE G2 (appS s x l.limit).1 [.int .i64 (appS s x l.limit).1.base, .slice A3 (appS s x l.limit).1.bytes.length c3] := by
   refine ⟨A3, c3, rfl, hs1, ?_⟩
   obtain ⟨-, -, -, -, hh⟩ := appS_ok k4
   rw [hh]
   exact sl_i hA s (List.mem_of_getElem? e1)
  rw [hxe]
  clear hxe
  generalize (appS s x l.limit).1 = s' at *
  rw [k4]
  intros; try refine go_seq ?_
  (intros; try refine go_st ?_); refine go_z _ (.cons _ (List.Sublist.refl _)) (by decide) ?_; refine sJ c19r13.eq_1 ?_
  refine ⟨by omega, ?_⟩
  refine ⟨_, ⟨_, [.int .i64 s'.base, .slice A3 s'.bytes.length c3], rfl, rfl, rfl, fun j u hu => .g (f8 j u hu)⟩, ?_⟩
  refine sJ @ht1 ?_
  refine ⟨?_, ?_⟩
  ·refine (ownN_sl hcl _ _).mono ?_
   rintro r h' ⟨G8, L', rfl, hg3, A4, c4, ys, rfl, -, hys, rfl⟩
   refine sI ?_
   refine ⟨grow_L hg3 (.cons _ (.cons _ (List.Sublist.refl _))), ?_⟩
   intro b9 hb9
   refine ⟨grow_L hg3 (.cons _ (.cons _ (.cons _ (List.Sublist.refl _)))), ?_⟩
   refine sI ?_
   refine app1 (L1 := []) (L2 := [_, _, _]) (E := SE G2) (x := s') rfl hse2 rfl (by simp [Value.oneCell']) hys (by omega) (by omega) fun A' c' zc' hzc' => ?_
   dsimp only
   generalize l.segs.take (l.segs.length - 1) ++ [s'] = ZS at *
   refine sI ?_
   refine ⟨grow_L hg3 (.cons _ (.cons _ (.cons _ (List.Sublist.refl _)))), ?_⟩
   refine (with_ok _ _ _ _ _ _ _ _ _ _ _).mono ?_; rintro _ _ ⟨rfl, rfl⟩; refine sI ?_
   refine ⟨grow_L hg3 (.cons _ (.cons _ (.cons _ (List.Sublist.refl _)))), ?_⟩
   refine sI ?_
   refine ⟨grow_L hg3 (.cons _ (.cons _ (.cons _ (List.Sublist.refl _)))), ?_⟩
   refine sI ?_
   (intros; try refine go_st ?_)
   refine go_gx (gx_slv_at [_] _ (by decide) hzc') ?_
   rintro h' ⟨G9, rfl, hg9, hv9⟩
   intros; refine rV ?_; simp only [push_cast, Nat.reduceBEq]
   exact ⟨_, rfl, A', c', rfl, hv9.le (.refl _) fun _ _ h => SE.le (hg3.trans hg9) h, hi, hj⟩
  ·intro b9 hb9
   refine ⟨grow_L (fun _ _ h => h) (.cons _ (.cons _ (List.Sublist.refl _))), ?_⟩
   refine (ownN_sl hcl _ _).mono ?_
   rintro r h' ⟨G8, L', rfl, hg3, A4, c4, ys, rfl, -, hys, rfl⟩
   refine sI ?_
   refine ⟨grow_L hg3 (.cons _ (.cons _ (.cons _ (List.Sublist.refl _)))), ?_⟩
   refine sI ?_
   refine app2 (L2 := [_, _, _]) (E := SE G2) (x := s') rfl hse2 rfl (by simp [Value.oneCell']) hys (by omega) (by omega) fun A' c' zc' hzc' => ?_
   dsimp only
   generalize l.segs.take (l.segs.length - 1) ++ [s'] = ZS at *
   refine sI ?_
   refine ⟨grow_L hg3 (.cons _ (.cons _ (.cons _ (List.Sublist.refl _)))), ?_⟩
   refine (with_ok _ _ _ _ _ _ _ _ _ _ _).mono ?_; rintro _ _ ⟨rfl, rfl⟩; refine sI ?_
   refine ⟨grow_L hg3 (.cons _ (.cons _ (.cons _ (List.Sublist.refl _)))), ?_⟩
   refine sI ?_
   refine ⟨grow_L hg3 (.cons _ (.cons _ (.cons _ (List.Sublist.refl _)))), ?_⟩
   refine sI ?_
   (intros; try refine go_st ?_)
   refine go_gx (gx_slv_at [] _ (by decide) hzc') ?_
   rintro h' ⟨G9, rfl, hg9, hv9⟩
   intros; refine rV ?_; simp only [push_cast, Nat.reduceBEq]
   exact ⟨_, rfl, A', c', rfl, hv9.le (.refl _) fun _ _ h => SE.le (hg3.trans hg9) h, hi, hj⟩
 have k4 := of_decide_eq_false k4
 clear hs1 f8
 intros; refine gN ?_
 have hd : decide ((l.segs.length : Int) = 256) = decide (l.segs.length = 256) := decide_eq_decide.2 (by omega)
 intros; refine gr 63 65 ?_; refine sJ2 c19r14.eq_1 @hd ?_
 intros; refine gc ?_; refine sI ?_
 refine gb (fun k5 => ?_) (fun k5 => ?_)
 ·have k5 := of_decide_eq_true k5
  intros; refine gr 66 67 ?_; refine sJ c19r15.eq_1 ?_
  intros; refine rV ?_; simp only [push_cast, Nat.reduceBEq]
  rw [appL, if_pos k0, if_pos k1, if_neg k2, if_neg k3, e3, if_neg k4, if_pos k5]
  exact noneL_r
 have k5 := of_decide_eq_false k5
 have hxe : appL l x = (⟨l.limit, l.start, l.segs ++ [⟨x.base, bytesB x⟩]⟩, 0) := by
  rw [appL, if_pos k0, if_pos k1, if_neg k2, if_neg k3, e3, if_neg k4, if_neg k5]
 have hof := of_one (limO_of c1) k1 (show ((bytesB x).length : Int) ≤ l.limit by omega)
 have hxi : I64 x.base := by obtain ⟨_, _, _, _, h, -⟩ := hx0; exact h
 rw [hxe]
 clear hxe
 intros; refine gN ?_
 intros; refine gr 67 77 ?_; refine sJ c19r16.eq_1 ?_
 intro b9 hb9
 refine sI ?_
 refine calls_gx0 F53.enters (gx_slv_at [] _ (by decide) (Cells.one (E := BE G2) (x := x) (BE.le hg1 hx0) rfl)) ?_
 rintro h' ⟨G3, rfl, hg3, hv3⟩
 refine (Of_ok x.base l.limit [x] _ G3 (hv3.le (.refl _) fun _ _ h => BE.le hg3 h) hxi hi _ _).mono ?_
 rw [hof]
 rintro r h' ⟨G4, rfl, hg4, A5, c5, rfl, hs5⟩
 have hg14 := hg1.trans (hg3.trans hg4)
 have hse2 : SE G4 ⟨x.base, bytesB x⟩ [.int .i64 x.base, .slice A5 (bytesB x).length c5] := ⟨A5, c5, rfl, hs5, hxi⟩
 have hse2 : SE G4 ⟨x.base, bytesB x⟩ [.int .i64 (⟨x.base, bytesB x⟩ : Sg).base, .slice A5 (⟨x.base, bytesB x⟩ : Sg).bytes.length c5] := hse2
 generalize (⟨x.base, bytesB x⟩ : Sg) = s' at *
 refine sI ?_
 intros; refine gr 77 78 ?_; refine sJ c19r17.eq_1 ?_
 have hz0 : decide ((0 : Int) ≠ 0) = false := by decide
 refine sJ @hz0 ?_
 intros; refine gc ?_; refine sI ?_
 intros; refine gN ?_
 have hsl1 : SlV G4 (SE G4) 2 (.slice A l.segs.length c) l.segs := SlSE.le hg14 ⟨A, c, rfl, hc, hmx, hA⟩
 have hcl := CloneS_ok l.segs _ G4 hsl1 (by omega)
 have hs5 : SB G4 (.slice A5 s'.bytes.length c5) s'.bytes := hs5
 (intros; try refine go_st ?_); refine go_z _ (.cons_cons _ (.cons _ (List.Sublist.refl _))) (by decide) ?_; refine sJ c19r19.eq_1 ?_
 refine ⟨?_, ?_⟩
 ·refine (ownN_sl hcl _ _).mono ?_
  rintro r h' ⟨G8, L', rfl, hg3, A4, c4, ys, rfl, -, hys, rfl⟩
  refine sI ?_
  refine ⟨grow_L hg3 (.cons _ (.cons_cons _ (.cons _ (List.Sublist.refl _)))), ?_⟩
  intro b9 hb9
  refine ⟨grow_L hg3 (.cons _ (.cons _ (.cons_cons _ (.cons _ (List.Sublist.refl _))))), ?_⟩
  refine sI ?_
  refine app1 (L1 := []) (L2 := [_, _, _, _]) (E := SE G4) (x := s') rfl hse2 rfl (by simp [Value.oneCell']) hys (by omega) (by omega) fun A' c' zc' hzc' => ?_
  dsimp only
  generalize l.segs ++ [s'] = ZS at *
  refine sI ?_
  refine ⟨grow_L hg3 (.cons _ (.cons _ (.cons_cons _ (.cons _ (List.Sublist.refl _))))), ?_⟩
  refine (with_ok _ _ _ _ _ _ _ _ _ _ _).mono ?_; rintro _ _ ⟨rfl, rfl⟩; refine sI ?_
  refine ⟨grow_L hg3 (.cons _ (.cons _ (.cons_cons _ (.cons _ (List.Sublist.refl _))))), ?_⟩
  refine sI ?_
  refine ⟨grow_L hg3 (.cons _ (.cons _ (.cons_cons _ (.cons _ (List.Sublist.refl _))))), ?_⟩
  refine sI ?_
  (intros; try refine go_st ?_)
  refine go_gx (gx_slv_at [_] _ (by decide) hzc') ?_
  rintro h' ⟨G9, rfl, hg9, hv9⟩
  intros; refine rV ?_; simp only [push_cast, Nat.reduceBEq]
  exact ⟨_, rfl, A', c', rfl, hv9.le (.refl _) fun _ _ h => SE.le (hg3.trans hg9) h, hi, hj⟩
 ·intro b9 hb9
  refine ⟨grow_L (fun _ _ h => h) (.cons _ (.cons_cons _ (.cons _ (List.Sublist.refl _)))), ?_⟩
  refine (ownN_sl hcl _ _).mono ?_
  rintro r h' ⟨G8, L', rfl, hg3, A4, c4, ys, rfl, -, hys, rfl⟩
  refine sI ?_
  refine ⟨grow_L hg3 (.cons _ (.cons _ (.cons_cons _ (.cons _ (List.Sublist.refl _))))), ?_⟩
  refine sI ?_
  refine app2 (L2 := [_, _, _, _]) (E := SE G4) (x := s') rfl hse2 rfl (by simp [Value.oneCell']) hys (by omega) (by omega) fun A' c' zc' hzc' => ?_
  dsimp only
  generalize l.segs ++ [s'] = ZS at *
  refine sI ?_
  refine ⟨grow_L hg3 (.cons _ (.cons _ (.cons_cons _ (.cons _ (List.Sublist.refl _))))), ?_⟩
  refine (with_ok _ _ _ _ _ _ _ _ _ _ _).mono ?_; rintro _ _ ⟨rfl, rfl⟩; refine sI ?_
  refine ⟨grow_L hg3 (.cons _ (.cons _ (.cons_cons _ (.cons _ (List.Sublist.refl _))))), ?_⟩
  refine sI ?_
  refine ⟨grow_L hg3 (.cons _ (.cons _ (.cons_cons _ (.cons _ (List.Sublist.refl _))))), ?_⟩
  refine sI ?_
  (intros; try refine go_st ?_)
  refine go_gx (gx_slv_at [] _ (by decide) hzc') ?_
  rintro h' ⟨G9, rfl, hg9, hv9⟩
  intros; refine rV ?_; simp only [push_cast, Nat.reduceBEq]
  exact ⟨_, rfl, A', c', rfl, hv9.le (.refl _) fun _ _ h => SE.le (hg3.trans hg9) h, hi, hj⟩
theorem F44 : Fun Tryz.prog 44 6 v44 c44 o44 := Fun.mkA Tryz.func44 Tryz.ntmps44
theorem F77 : Fun Tryz.prog 77 40 v77 c77 o77 := Fun.mkA Tryz.func77 Tryz.ntmps77
theorem F76 : Fun Tryz.prog 76 13 v76 c76 o76 := Fun.mkA Tryz.func76 Tryz.ntmps76
theorem F43 : Fun Tryz.prog 43 5 v43 c43 o43 := Fun.mkA Tryz.func43 Tryz.ntmps43
theorem F15 : Fun Tryz.prog 15 11 v15 c15 o15 := Fun.mkA Tryz.func15 Tryz.ntmps15
def EBx (G : Nat → Option Obj) (x : Batch) (args : Array Value) : Prop := ∃ cs, BE G x cs ∧ args = #[.agg cs.toArray]
theorem bsS_take {l : List Sg} {k : Nat} {s : Sg} (h : l[k]? = some s) : bsS (l.take (k + 1)) = bsS (l.take k) ++ scanB s := by
 rw [take_snoc' h, bsS_app, bsS_cons, bsS_nil, List.append_nil]
theorem reach_one (off : Int) (x : Batch) : reach off [x] = if off ≤ x.last then [x] else [] := by
 unfold reach
 by_cases h : off ≤ x.last <;> simp [h]
theorem reach_at {off : Int} {l : List Sg} {k j : Nat} {s : Sg} {x : Batch} (hs : l[k]? = some s) (hx : (scanB s)[j]? = some x) (hf : off ≤ x.last) :
  (reach off (bsS l))[(reach off (bsS (l.take k))).length + (reach off ((scanB s).take j)).length]? = some x := by
 have e1 : bsS l = bsS (l.take k) ++ (((scanB s).take j ++ x :: (scanB s).drop (j + 1)) ++ bsS (l.drop (k + 1))) := by
  rw [← split_at hx, ← bsS_cons, ← bsS_app, ← split_at hs]
 have e2 : reach off (x :: (scanB s).drop (j + 1)) = x :: reach off ((scanB s).drop (j + 1)) := by
  unfold reach
  rw [List.filter_cons, if_pos (by simp [hf])]
 rw [e1, reach_app, reach_app, reach_app, e2]
 simp
set_option maxHeartbeats 1000000 in
theorem batches1_iter (l : Lg) (off : Int) (A : Option Addr) (c b1 b2 : Nat) (G0 : Nat → Option Obj) (hl : SlV G0 (SE G0) 2 (.slice A l.segs.length c) l.segs) (hb : smL l.segs) (h1 : cellG G0 ⟨b1, 2, none⟩ = some (.slice A l.segs.length c)) (h2 : cellG G0 ⟨b2, 0, none⟩ = some (.int .i64 off)) :
  IterH Tryz.prog 77 #[.pointer (some ⟨b1, 0, none⟩), .pointer (some ⟨b2, 0, none⟩)] (reach off (bsS l.segs)) EBx G0 := by
 intro yl I Ix G L hG hn hI hIx hmo hi0 hy L2 D
 have hargs : (#[.func (.yield yl) #[] #[]] ++ #[.pointer (some ⟨b1, 0, none⟩), .pointer (some ⟨b2, 0, none⟩)] : Array Value) = #[.func (.yield yl) #[] #[], .pointer (some ⟨b1, 0, none⟩), .pointer (some ⟨b2, 0, none⟩)] := rfl
 rw [hargs]
 have hat := fun k j s x => @reach_at off l.segs k j s x
 have htot : (reach off (bsS (l.segs.take l.segs.length))).length = (reach off (bsS l.segs)).length := by rw [List.take_length]
 generalize reach off (bsS l.segs) = T at *
 refine (F77.calls (R := fun _ h => Gle G h.G ∧ (I T.length h.G h.L ∨ ∃ i, i < T.length ∧ Ix i h.G h.L)) (by simp) hn (go_of ?_) L2 D).mono ?_
 rotate_left
 ·rintro v h' ⟨G', L', rfl, hn', hgg, hr⟩
  exact ⟨G', L', rfl, hgg, hn', hr⟩
 have e1 := cellG_le hG h1
 have e2 := cellG_le hG h2
 have hlG := SlSE.le hG hl
 obtain ⟨A0, c0, he, hc, hmx, hA⟩ := id hlG
 cases he
 unfold c77
 intros; refine gr 10 11 ?_; refine sJ c77r0.eq_1 ?_
 refine ⟨_, ⟨_, rfl, .g e1⟩, ?_⟩
 refine sI ?_
 (intros; try refine go_st ?_)
 refine go_loop (fun e h => ∃ (k : Nat) (G' : Nat → Option Obj) (L' Lh : List Kx.Item), (k ≤ l.segs.length ∧ Gle G G' ∧ NoRegs L' ∧ I (reach off (bsS (l.segs.take k))).length G' L') ∧ e 13 = .int .i64 k ∧ e 12 = .int .i64 l.segs.length ∧ e 11 = .slice A l.segs.length c ∧ e 0 = .func (.yield yl) #[] #[] ∧ e 2 = .pointer (some ⟨b2, 0, none⟩) ∧ h = ⟨G', Lh, []⟩ ∧ L'.Sublist Lh) (fun e h => l.segs.length - iv (e 13)) ?_ ?_
 ·exact ⟨0, G, L, L, ⟨Nat.zero_le _, .refl G, hn, hi0⟩, eE, eE, eE, eE, eE, rfl, List.Sublist.refl _⟩
 rintro e h ⟨k, G', L', Lh, ⟨hk, hgg, hn', hI'⟩, e13, e12, e11, e00, e22, rfl, hsub⟩
 refine go_keep [0, 2, 11, 12, 13] ?_
 refine sJ5 @e00 @e22 @e11 @e12 @e13 ?_
 intros
 refine go_ghost (ghost_sub hsub) ?_
 have hrm5 := rmR_no (s := 5) hn'
 intros; refine gr 0 0 ?_; refine sJ c77r1.eq_1 ?_
 intros; refine gc ?_; refine sI ?_
 refine gb (fun ht => ?_) (fun ht => ?_)
 ·have ht : k < l.segs.length := by have := of_decide_eq_true ht; omega
  have hw := inc_i k c (by omega) hmx
  obtain ⟨s, hs⟩ : ∃ s, l.segs[k]? = some s := ⟨l.segs[k], List.getElem?_eq_getElem (by omega)⟩
  have hbs := hb s (List.mem_of_getElem? hs)
  have hlG' := SlSE.le hgg hlG
  obtain ⟨A0, c0, he, -, -, hA'⟩ := hlG'
  cases he
  intros; refine gN ?_
  intros; refine gr 15 17 ?_; refine sJ c77r2.eq_1 ?_
  refine hA'.x_ld hs rfl rfl ?_
  rintro a1 ha1 cs hse
  have hscan := Scan_ok s cs G' hse (by omega)
  obtain ⟨B, d, rfl, hsb, hsi⟩ := hse
  unfold cellS at hscan ⊢
  refine sJ @hrm5 ?_
  intros; refine gr 17 22 ?_; refine sJ c77r3.eq_1 ?_
  refine (hscan _ _).mono ?_
  rintro r h' ⟨G1, L1, rfl, hg1, u, zc, rfl, hzc, rfl⟩
  refine sI ?_
  intros; try refine go_seq ?_
  refine go_gx (gx_slv_at [] _ (by decide) hzc) ?_
  rintro h' ⟨G2, rfl, hg2, hv2⟩
  have hv2 : SlV G2 (BE G2) 10 u (scanB s) := hv2.le (.refl _) fun _ _ h => BE.le hg2 h
  have hbt := bsS_take hs
  have hat' := fun j x => hat k j s x hs
  obtain ⟨rr, hsc⟩ := scan_spec s
  have hlen := hsc.len
  generalize scanB s = bs at *
  obtain ⟨A2, c2, rfl, hc2, hm2, hA2⟩ := hv2
  have hgg2 := hgg.trans (hg1.trans hg2)
  have hI2 := hmo _ _ _ _ (hg1.trans hg2) hI'
  intros; refine gr 0 0 ?_; refine sJ c77r4.eq_1 ?_
  intros
  refine go_cut (fun e h => ∃ (G' : Nat → Option Obj) (L' Lh : List Kx.Item), (Gle G G' ∧ NoRegs L' ∧ I (reach off (bsS (l.segs.take (k + 1)))).length G' L') ∧ e 13 = .int .i64 k ∧ e 12 = .int .i64 l.segs.length ∧ e 11 = .slice A l.segs.length c ∧ e 0 = .func (.yield yl) #[] #[] ∧ e 2 = .pointer (some ⟨b2, 0, none⟩) ∧ h = ⟨G', Lh, []⟩ ∧ L'.Sublist Lh) ?_ ?_
  ·(intros; try refine go_st ?_)
   refine go_loop (fun e h => ∃ (j : Nat) (G' : Nat → Option Obj) (L' Lh : List Kx.Item), (j ≤ bs.length ∧ Gle G2 G' ∧ NoRegs L' ∧ I ((reach off (bsS (l.segs.take k))).length + (reach off (bs.take j)).length) G' L') ∧ e 24 = .int .i64 j ∧ e 23 = .int .i64 bs.length ∧ e 22 = .slice A2 bs.length c2 ∧ e 13 = .int .i64 k ∧ e 12 = .int .i64 l.segs.length ∧ e 11 = .slice A l.segs.length c ∧ e 0 = .func (.yield yl) #[] #[] ∧ e 2 = .pointer (some ⟨b2, 0, none⟩) ∧ h = ⟨G', Lh, []⟩ ∧ L'.Sublist Lh) (fun e h => bs.length - iv (e 24)) ?_ ?_
   ·exact ⟨0, G2, L', _, ⟨Nat.zero_le _, .refl _, hn', hI2⟩, eE, eE, eE, eE, eE, eE, eE, eE, rfl, .cons _ (List.Sublist.refl _)⟩
   rintro e h ⟨j, G3, L3, Lh, ⟨hj, hg3, hn3, hI3⟩, e24, e23, e22', e13, e12, e11, e00, e22, rfl, hsub⟩
   refine go_keep [0, 2, 11, 12, 13, 22, 23, 24] ?_
   (try simp -implicitDefEqProofs only [kR_e, kQ_e, push_cast, Nat.reduceBEq, Nat.reduceAdd, Nat.reduceSub, Nat.reduceMul, Nat.reduceLT, Nat.reduceLeDiff, Nat.reduceEqDiff, reduceIte, Bool.not_true, Bool.not_false, true_and, and_true, Option.map_some, Option.bind_some, Int.toNat_natCast, e00, e22, e11, e12, e13, e22', e23, e24])
   intros
   refine go_ghost (ghost_sub hsub) ?_
   have hrm9 := rmR_no (s := 9) hn3
   have e2' := cellG_le (hgg2.trans hg3) e2
   intros; refine gr 0 0 ?_; refine sJ c77r5.eq_1 ?_
   intros; refine gc ?_; refine sI ?_
   refine gb (fun ht2 => ?_) (fun ht2 => ?_)
   ·have ht2 : j < bs.length := by have := of_decide_eq_true ht2; omega
    have hw2 := inc_i j c2 (by omega) hm2
    obtain ⟨x, hx⟩ : ∃ x, bs[j]? = some x := ⟨bs[j], List.getElem?_eq_getElem (by omega)⟩
    have hA3 := hA2.le hg3 (E' := BE G3) fun _ _ h => BE.le hg3 h
    have hrt : reach off (bs.take (j + 1)) = reach off (bs.take j) ++ (if off ≤ x.last then [x] else []) := by rw [take_snoc' hx, reach_app, reach_one]
    intros; refine gN ?_
    intros; refine gr 26 28 ?_; refine sJ c77r6.eq_1 ?_
    refine hA3.x_ld hx rfl rfl ?_
    rintro a3 ha3 cs hbe
    have hbe0 := hbe
    obtain ⟨B3, d3, rfl, -⟩ := hbe
    unfold cellH at hbe0 ⊢
    refine sJ @hrm9 ?_
    intros; refine gr 29 37 ?_; refine sJ c77r7.eq_1 ?_
    refine ⟨_, ⟨_, rfl, .g e2'⟩, ?_⟩
    refine sI ?_
    refine gd (fun k1 => ?_) (fun k1 => ?_)
    ·have k1 := of_decide_eq_true k1
     rw [if_pos k1] at hrt
     have hlen2 : (reach off (bsS (l.segs.take k))).length + (reach off (bs.take j)).length + 1 = (reach off (bsS (l.segs.take k))).length + (reach off (bs.take (j + 1))).length := by rw [hrt, List.length_append]; rfl
     have hxT := hat' j x hx k1
     refine sI ?_
     refine .inr ⟨yl, rfl, ?_⟩
     refine YieldH.ghost (ghost_perm (List.perm_append_comm (l₁ := [_]))) ?_
     refine (hy _ x _ G3 L3 hxT (hgg2.trans hg3) ⟨_, hbe0, rfl⟩ hI3 [_] []).mono ?_
     rintro v h' ⟨G4, L4, rfl, hg4, hn4, hr⟩
     rcases hr with ⟨rfl, hr⟩ | ⟨rfl, hr⟩
     ·refine sI ?_
      intros; refine gc ?_; refine sI ?_
      refine go_ghost (ghost_sub (List.sublist_append_left _ _)) ?_
      intros; refine gr 38 39 ?_; refine sJ2 c77r8.eq_1 @hw2 ?_
      (intros; try refine go_st ?_)
      rw [hlen2] at hr
      refine go_l ⟨⟨j + 1, G4, L4, _, ⟨by omega, hg3.trans hg4, hn4, hr⟩, eE, eE, eE, eE, eE, eE, eE, eE, rfl, List.Sublist.refl _⟩, ?_⟩
      refine sI ?_
      omega
     ·refine sI ?_
      intros; refine gc ?_; refine sI ?_
      (intros; try refine go_st ?_)
      refine go_ret (retQ_o L4 rfl (List.sublist_append_left _ _) hn4 ?_)
      exact ⟨hgg2.trans (hg3.trans hg4), .inr ⟨_, (List.getElem?_eq_some_iff.1 hxT).1, hr⟩⟩
    ·have k1 := of_decide_eq_false k1
     rw [if_neg k1, List.append_nil] at hrt
     refine sI ?_
     intros; refine gc ?_; refine sI ?_
     refine go_ghost (ghost_sub (L' := L3) (.cons _ (List.Sublist.refl _))) ?_
     intros; refine gr 38 39 ?_; refine sJ2 c77r8.eq_1 @hw2 ?_
     (intros; try refine go_st ?_)
     refine go_l ⟨⟨j + 1, G3, L3, _, ⟨by omega, hg3, hn3, by rw [hrt]; exact hI3⟩, eE, eE, eE, eE, eE, eE, eE, eE, rfl, List.Sublist.refl _⟩, ?_⟩
     refine sI ?_
     omega
   ·have ht2 : j = bs.length := by have := of_decide_eq_false ht2; omega
    subst ht2
    rw [List.take_length] at hI3
    refine go_exit ?_
    refine sI ?_
    intros; refine gN ?_
    exact go_l ⟨G3, L3, _, ⟨hgg2.trans hg3, hn3, by rw [hbt, reach_app, List.length_append]; exact hI3⟩, eE, eE, eE, eE, eE, rfl, List.Sublist.refl _⟩
  rintro e h ⟨G3, L3, Lh, ⟨hg3, hn3, hI3⟩, e13, e12, e11, e00, e22, rfl, hsub⟩
  refine go_keep [0, 2, 11, 12, 13] ?_
  refine sJ5 @e00 @e22 @e11 @e12 @e13 ?_
  intros
  refine go_ghost (ghost_sub hsub) ?_
  intros; refine gr 39 40 ?_; refine sJ2 c77r9.eq_1 @hw ?_
  (intros; try refine go_st ?_)
  refine go_l ⟨⟨k + 1, G3, L3, _, ⟨by omega, hg3, hn3, hI3⟩, eE, eE, eE, eE, eE, rfl, List.Sublist.refl _⟩, ?_⟩
  refine sI ?_
  omega
 ·have ht : k = l.segs.length := by have := of_decide_eq_false ht; omega
  subst ht
  rw [htot] at hI'
  refine go_exit ?_
  refine sI ?_
  (intros; try refine go_st ?_)
  refine go_nil ?_
  exact ⟨[], rfl, ⟨G', L', []⟩, ghost_sub (List.Sublist.refl _), hn', hgg, .inl hI'⟩
theorem batches_ok (l : Lg) (off : Int) (cs : List Value) (G : Nat → Option Obj) (hl : LE G l cs) (hb : smL l.segs) :
  FnD Tryz.prog 44 #[.agg cs.toArray, .int .i64 off] G (fun G' r => ∃ b1 b2, r = .func (.func 77) #[] #[.pointer (some ⟨b1, 0, none⟩), .pointer (some ⟨b2, 0, none⟩)] ∧ IterH Tryz.prog 77 #[.pointer (some ⟨b1, 0, none⟩), .pointer (some ⟨b2, 0, none⟩)] (reach off (bsS l.segs)) EBx G') := by
 obtain ⟨A, c, rfl, hsl, hi, hj⟩ := hl
 refine F44.fnD (by simp) (go_of ?_)
 unfold c44 cellL
 intros; refine gr 0 0 ?_; refine sJ c44r0.eq_1 ?_
 intro b1 hb1 b2 hb2
 (intros; try refine go_st ?_)
 refine go_gx gx_blk ?_
 rintro h' ⟨G1, rfl, hg1, f2⟩
 refine go_gx gx_blk ?_
 rintro h' ⟨G2, rfl, hg2, f1⟩
 have e1 := f1 2 _ rfl
 have e2 := cellG_le hg2 (f2 0 _ rfl)
 rw [add_off] at e1 e2
 intros; refine gr 5 6 ?_; refine sJ c44r1.eq_1 ?_
 intros; refine rV ?_; simp only [push_cast, Nat.reduceBEq]
 exact ⟨b1, b2, rfl, batches1_iter l off A c b1 b2 G2 (SlSE.le (hg1.trans hg2) hsl) hb e1 e2⟩
theorem AppendSeq_ok (T : List Batch) (gf : Nat) (cap : Array Value) (G : Nat → Option Obj) (hit : IterH Tryz.prog gf cap T EBx G) (hEn : Enters Tryz.prog gf) (hT : T.length ≤ 1000000) :
  FnO Tryz.prog 76 #[.slice none 0 0, .func (.func gf) #[] cap] G [] (fun G' L' r => OwnL (BE G') 39 10 T L' r) := by
 refine F76.fnO (by simp) noRegs_nil (go_of ?_)
 unfold c76
 intros; refine gr 0 0 ?_; refine sJ c76r0.eq_1 ?_
 intro b2 hb2
 intros; refine gr 0 0 ?_; refine sJ c76r1.eq_1 ?_
 (intros; try refine go_st ?_)
 refine go_ghost (ghost_nil none 39 10) ?_
 refine go_rf (α := Batch) (fun k G' L' => ∃ u zc, L' = [.row u 39 10 (T.take k).length zc, .blk b2 [u]] ∧ Cells (BE G') 10 (T.take k) zc) (fun _ _ _ _ => False) (eE) hEn (noRegs_row (noRegs_blk noRegs_nil))
  (fun i G G' L hg ⟨u, zc, h1, h2⟩ => ⟨u, zc, h1, cells_imp h2 fun _ _ h => BE.le hg h⟩) hit (fun G x args h => by obtain ⟨_, _, rfl⟩ := h; rfl) ⟨_, [], rfl, .nil⟩ ?_ ?_ ?_
 ·rintro yl k x args G' L' hx hgl ⟨cs, hbe, rfl⟩ ⟨u, zc, rfl, hzc⟩ _
  have hkl : k < T.length := (List.getElem?_eq_some_iff.1 hx).1
  have hbe0 := hbe
  obtain ⟨B, d, rfl, -⟩ := hbe
  unfold cellH at hbe0 ⊢
  refine sI ?_
  intros; refine gr 0 0 ?_; refine sJ c76r2.eq_1 ?_
  intro bb
  refine go_nil (rnd_a ?_)
  have htk : T.take (k + 1) = T.take k ++ [x] := take_snoc' hx
  have hkl2 : (T.take k).length ≤ T.length := by rw [List.length_take]; omega
  have hkl3 : (T.take k).length = k := by rw [List.length_take]; omega
  intros; refine gr 8 12 ?_; refine sJ c76r3.eq_1 ?_
  refine ⟨_, ldN_blk (.tail _ (.tail _ (.head _))) rfl, ?_⟩
  refine sI ?_
  intro bk hbk
  refine app1 (L1 := [_]) (L2 := [_]) (E := BE G') (x := x) rfl hbe0 rfl (by simp [Value.oneCell']) hzc (by omega) (by omega) fun A' c' zc' hzc' => ?_
  rw [← htk] at hzc' ⊢
  refine sI ?_
  refine stX_blk [_, _, _] [] rfl (by simp) ⟨rfl, rfl⟩ ?_
  refine sI ?_
  (intros; try refine go_st ?_)
  refine go_nil (rnd_n _ (.cons _ (.cons _ (List.Sublist.refl _))) (noRegs_row (noRegs_blk noRegs_nil)) ⟨_, zc', rfl, hzc'⟩)
 ·rintro G' L' dd hgl ⟨u, zc, rfl, hzc⟩ _
  rw [List.take_length] at hzc ⊢
  refine go_b ?_
  intros; refine gr 12 13 ?_; refine sJ c76r4.eq_1 ?_
  refine ⟨_, ldN_blk (.tail _ (.head _)) rfl, ?_⟩
  refine sI ?_
  (intros; try refine go_st ?_)
  refine go_ret (retQ_o _ rfl (.cons_cons _ (List.nil_sublist _)) (noRegs_row noRegs_nil) ?_)
  exact ⟨zc, hzc, rfl⟩
 ·rintro ex i G' L' d _ _ h
  exact h.elim
theorem Collect_ok (T : List Batch) (gf : Nat) (cap : Array Value) (G : Nat → Option Obj) (hit : IterH Tryz.prog gf cap T EBx G) (hEn : Enters Tryz.prog gf) (hT : T.length ≤ 1000000) :
  FnO Tryz.prog 43 #[.func (.func gf) #[] cap] G [] (fun G' L' r => OwnL (BE G') 39 10 T L' r) := by
 refine F43.fnO (by simp) noRegs_nil (go_of ?_)
 unfold c43
 intros; refine gr 0 0 ?_; refine sJ c43r0.eq_1 ?_
 intros; refine gr 3 5 ?_; refine sJ c43r1.eq_1 ?_
 refine (AppendSeq_ok T gf cap G hit hEn hT _ _).mono ?_
 rintro r h' ⟨G1, L', rfl, hg1, zc, hzc, rfl⟩
 refine sI ?_
 (intros; try refine go_st ?_)
 refine go_ret (retQ_o _ rfl (List.Sublist.refl _) (noRegs_row noRegs_nil) ?_)
 exact ⟨zc, hzc, rfl⟩
theorem len_allB (l : List Batch) : 9 * l.length ≤ (allB l).length := by
 induction l with
 | nil => simp
 | cons x l ih =>
  have := bytesB_pos x
  rw [allB_cons, List.length_append, List.length_cons]
  omega
theorem chk_len {l : Lg} (h : chkL l = 0) : (allB (bsS l.segs)).length ≤ 1048576 := by
 obtain ⟨h1, h2, h3, h4⟩ := chkL_0 h
 have h5 := (mayO_iff.1 h1).1.2
 have h6 := sizS_le h3
 have h7 := bsS_len h3
 have h9 : l.limit * (l.segs.length : Int) ≤ 4096 * 256 := Int.mul_le_mul h5 (by omega) (by omega) (by omega)
 omega
theorem reach_cnt {l : Lg} (off : Int) (h : chkL l = 0) : (allB (reach off (bsS l.segs))).length ≤ 1048576 ∧ (reach off (bsS l.segs)).length ≤ 1000000 := by
 have h1 := chk_len h
 have h2 := reach_len off (bsS l.segs)
 have h3 := len_allB (reach off (bsS l.segs))
 omega
theorem All_ok (l : Lg) (cs : List Value) (G : Nat → Option Obj) (hl : LE G l cs) (hb : smL l.segs) : FnD Tryz.prog 15 #[.agg cs.toArray] G (fun G' r => SlV G' (BE G') 10 r (AllL l)) := by
 have hl0 := hl
 have hchk := ChkL_ok l cs G hl hb
 obtain ⟨A, c, rfl, hsl, hi, hj⟩ := hl
 refine F15.fnD (by simp) (go_of ?_)
 unfold c15
 unfold cellL at hchk hl0 ⊢
 intros; refine gr 0 0 ?_; refine sJ c15r0.eq_1 ?_
 intros; refine gr 3 5 ?_; refine sJ c15r1.eq_1 ?_
 refine (hchk _ _).mono ?_; rintro _ _ ⟨rfl, rfl⟩; refine sI ?_
 intros; refine gc ?_; refine sI ?_
 refine gb (fun k1 => ?_) (fun k1 => ?_)
 ·have k1 := of_decide_eq_true k1
  intros; refine gr 0 0 ?_; refine sJ c15r2.eq_1 ?_
  intros; refine rV ?_; simp only [push_cast, Nat.reduceBEq]
  rw [AllL, if_neg k1]
  exact slN
 have k1 : chkL l = 0 := by simpa using k1
 intros; refine gN ?_
 intros; refine gr 6 11 ?_; refine sJ c15r3.eq_1 ?_
 refine (batches_ok l l.start _ G hl0 hb _ _).mono ?_
 rintro r h' ⟨G1, rfl, hg1, b1, b2, rfl, hit⟩
 refine sI ?_
 refine (Collect_ok _ _ _ G1 hit F77.enters (reach_cnt _ k1).2 _ _).mono ?_
 rintro r h' ⟨G2, L', rfl, hg2, zc, hzc, rfl⟩
 refine sI ?_
 intros; try refine go_seq ?_
 refine go_gx (gx_slv_at [] _ (by decide) hzc) ?_
 rintro h' ⟨G3, rfl, hg3, hv3⟩
 intros; refine rV ?_; simp only [push_cast, Nat.reduceBEq]
 rw [AllL, if_pos k1]
 exact hv3.le (.refl _) fun _ _ h => BE.le hg3 h
theorem F27 : Fun Tryz.prog 27 44 v27 c27 o27 := Fun.mkA Tryz.func27 Tryz.ntmps27
def BsR (p : List Batch × Int) (G : Nat → Option Obj) (r : Value) : Prop := ∃ A c, r = .tuple #[.slice A p.1.length c, .int .i64 p.2] ∧ SlV G (BE G) 10 (.slice A p.1.length c) p.1
theorem noneBs {p : Int} {G : Nat → Option Obj} : BsR ([], p) G (.tuple #[.slice none 0 0, .int .i64 p]) := ⟨none, 0, rfl, slN⟩
theorem asks_cut {T : List Batch} {k : Nat} {x : Batch} {m : Int} (hx : T[k]? = some x) :
  asks (decide (0 < k)) (m - ((allB (T.take k)).length : Int)) (T.drop k) = if 0 < k ∧ m - ((allB (T.take (k + 1))).length : Int) < 0 then [] else x :: asks (decide (0 < k + 1)) (m - ((allB (T.take (k + 1))).length : Int)) (T.drop (k + 1)) := by
 obtain ⟨h1, h2⟩ := List.getElem?_eq_some_iff.1 hx
 have e : (allB (T.take (k + 1))).length = (allB (T.take k)).length + (bytesB x).length := by rw [allB_take hx, List.length_append]
 have e2 : m - ((allB (T.take (k + 1))).length : Int) = m - ((allB (T.take k)).length : Int) - ((bytesB x).length : Int) := by omega
 rw [List.drop_eq_getElem_cons h1, h2, asks, e2]
 have hd : decide (0 < k + 1) = true := decide_eq_true (by omega)
 rw [hd]
 by_cases h3 : 0 < k
 ·simp [h3]
 ·simp [h3]
def fitT (T : List Batch) (m : Int) (k : Nat) : Prop := asks false m T = T.take k ++ asks (decide (0 < k)) (m - ((allB (T.take k)).length : Int)) (T.drop k)
theorem fit_0 (T : List Batch) (m : Int) : fitT T m 0 := by
 have : m - ((allB (T.take 0)).length : Int) = m := by simp [allB]
 unfold fitT
 rw [this]
 rfl
set_option maxHeartbeats 1000000 in
theorem Read_ok (l : Lg) (off most : Int) (cs : List Value) (G : Nat → Option Obj) (hl : LE G l cs) (hb : smL l.segs) (hm : l.segs.length ≤ 1000000) (ho : I64 off) (hmi : I64 most) :
  FnD Tryz.prog 27 #[.agg cs.toArray, .int .i64 off, .int .i64 most] G (BsR (readL l off most)) := by
 have hl0 := hl
 have hchk := ChkL_ok l cs G hl hb
 have hbt := between_ok l off cs G hl hb
 obtain ⟨A, c, rfl, hsl, hi, hj⟩ := hl
 refine F27.fnD (by simp) (go_of ?_)
 unfold c27
 unfold cellL at hchk hbt hl0 ⊢
 intros; refine gr 0 0 ?_; refine sJ c27r0.eq_1 ?_
 intro b3 hb3 b5 hb5
 (intros; try refine go_st ?_)
 refine go_gx (gx_blk_at [_] _) ?_
 rintro h' ⟨G1, rfl, hg1, f3⟩
 have hchk := ChkL_ok l _ G1 (LE.le hg1 hl0) hb
 have hbt := between_ok l off _ G1 (LE.le hg1 hl0) hb
 intros; refine gr 11 13 ?_; refine sJ c27r1.eq_1 ?_
 refine ⟨_, ⟨_, [.int .i64 l.limit, .int .i64 l.start, .slice A l.segs.length c], rfl, rfl, rfl, fun j u hu => .g (f3 j u hu)⟩, ?_⟩
 refine sI ?_
 refine (hchk _ _).mono ?_; rintro _ _ ⟨rfl, rfl⟩; refine sI ?_
 intros; refine gr 13 14 ?_; refine sJ c27r2.eq_1 ?_
 intros; refine gc ?_; refine sI ?_
 refine gb (fun k1 => ?_) (fun k1 => ?_)
 ·have k1 := of_decide_eq_true k1
  intros; refine gr 15 16 ?_; refine sJ c27r3.eq_1 ?_
  intros; refine rV ?_; simp only [push_cast, Nat.reduceBEq]
  rw [readL, if_neg k1]
  exact noneBs
 have k1 : chkL l = 0 := by simpa using k1
 obtain ⟨c1, c2, c3, c4⟩ := chkL_0 k1
 intros; refine gN ?_
 intros; refine gr 17 19 ?_; refine sJ c27r4.eq_1 ?_
 refine ⟨_, ldN_blk (.head _) rfl, ?_⟩
 refine sI ?_
 intros; refine gc ?_; refine sI ?_
 refine gb (fun k2 => ?_) (fun k2 => ?_)
 ·have k2 := of_decide_eq_true k2
  intros; refine gr 0 0 ?_; refine sJ c27r5.eq_1 ?_
  intros; refine rV ?_; simp only [push_cast, Nat.reduceBEq]
  rw [readL, if_pos k1, if_pos k2]
  exact noneBs
 have k2 := of_decide_eq_false k2
 intros; refine gN ?_
 intros; refine gr 20 24 ?_; refine sJ c27r6.eq_1 ?_
 refine ⟨_, ⟨_, [.int .i64 l.limit, .int .i64 l.start, .slice A l.segs.length c], rfl, rfl, rfl, fun j u hu => .g (f3 j u hu)⟩, ?_⟩
 refine sI ?_
 refine (hbt c2 hm _ _).mono ?_; rintro _ _ ⟨rfl, rfl⟩; refine sI ?_
 intros; refine gc ?_; refine sI ?_
 refine gb (fun k3 => ?_) (fun k3 => ?_)
 ·have k3 : betw l off = false := by simpa using k3
  intros; refine gr 0 0 ?_; refine sJ c27r7.eq_1 ?_
  intros; refine rV ?_; simp only [push_cast, Nat.reduceBEq]
  rw [readL, if_pos k1, if_neg k2, if_neg (by rw [k3]; simp)]
  exact noneBs
 have k3 : betw l off = true := by simpa using k3
 have hread : readL l off most = (asks false most (reach off (bsS l.segs)), 0) := by rw [readL, if_pos k1, if_neg k2, if_pos k3]
 rw [hread]
 clear hread
 obtain ⟨t1, t2⟩ := reach_cnt off k1
 have hok : ∀ x ∈ reach off (bsS l.segs), errB x = 0 := fun x hx => bsS_err x (reach_mem hx).1
 intros; refine gN ?_
 intros; refine gr 0 0 ?_; refine sJ c27r8.eq_1 ?_
 intro b9 hb9
 intros; refine gr 24 26 ?_; refine sJ c27r9.eq_1 ?_
 refine ⟨_, ⟨_, [.int .i64 l.limit, .int .i64 l.start, .slice A l.segs.length c], rfl, rfl, rfl, fun j u hu => .g (f3 j u hu)⟩, ?_⟩
 refine sI ?_
 refine (batches_ok l off _ G1 (LE.le hg1 hl0) hb _ _).mono ?_
 rintro r h' ⟨G2, rfl, hg2, bb1, bb2, rfl, hit⟩
 generalize reach off (bsS l.segs) = T at *
 have hm0 : most - ((allB (T.take 0)).length : Int) = most := by simp [allB]
 have hmx : most < 9223372036854775808 := by unfold I64 at hmi; omega
 refine sI ?_
 (intros; try refine go_st ?_)
 refine go_ghost (ghost_nil none 39 10) ?_
 refine go_rf (α := Batch) (fun k G' L' => ∃ u zc, L' = [.row u 39 10 (T.take k).length zc, .blk b9 [u], .blk b5 [.int .i64 (most - ((allB (T.take k)).length : Int))]] ∧ Cells (BE G') 10 (T.take k) zc ∧ fitT T most k)
  (fun ex k G' L' => ∃ u zc, ex = .exit 1 ∧ L' = [.row u 39 10 (T.take k).length zc, .blk b9 [u]] ∧ Cells (BE G') 10 (T.take k) zc ∧ asks false most T = T.take k) (eE) F77.enters (noRegs_row (noRegs_blk (noRegs_blk noRegs_nil)))
  (fun i G G' L hg ⟨u, zc, h1, h2, h3⟩ => ⟨u, zc, h1, cells_imp h2 fun _ _ h => BE.le hg h, h3⟩) hit (fun G x args h => by obtain ⟨_, _, rfl⟩ := h; rfl) ⟨.slice none 0 0, [], by rw [hm0]; rfl, .nil, fit_0 T most⟩ ?_ ?_ ?_
 ·rintro yl k x args G' L' hx hgl ⟨cs, hbe, rfl⟩ ⟨u, zc, rfl, hzc, hfit⟩ _
  have hkl : k < T.length := (List.getElem?_eq_some_iff.1 hx).1
  have hbe0 := hbe
  have hx0 := hok x (List.mem_of_getElem? hx)
  have hsz := Size_ok x cs G' hbe
  rw [sizeB, putB_0 hx0] at hsz
  obtain ⟨B, d, rfl, -⟩ := hbe
  unfold cellH at hbe0 hsz ⊢
  have htk : T.take (k + 1) = T.take k ++ [x] := take_snoc' hx
  have hkl2 : (T.take k).length ≤ T.length := by rw [List.length_take]; omega
  have hkl3 : (T.take k).length = k := by rw [List.length_take]; omega
  have hle := allB_take_le T (k + 1)
  have hcut := asks_cut (m := most) hx
  have e : (allB (T.take (k + 1))).length = (allB (T.take k)).length + (bytesB x).length := by rw [allB_take hx, List.length_append]
  have hw : IntKind.i64.wrap (most - ((allB (T.take k)).length : Int) - ((bytesB x).length : Int)) = most - ((allB (T.take (k + 1))).length : Int) := by rw [w64_id] <;> omega
  unfold fitT at hfit
  rw [hcut] at hfit
  dsimp only at hsz
  refine sI ?_
  intros; refine gr 0 0 ?_; refine sJ c27r10.eq_1 ?_
  intro bb
  refine go_nil (rnd_a ?_)
  refine go_gx (gx_knowS (.tail _ (.head _))) ?_
  rintro h' ⟨rfl, A2, c2, rfl, -, -⟩
  (intros; try refine go_st ?_); refine go_y _ (List.Sublist.refl _) (by decide) ?_; refine sJ c27r11.eq_1 ?_
  refine ⟨_, ldN_blk (.tail _ (.tail _ (.tail _ (.head _)))) rfl, ?_⟩
  refine sI ?_
  refine (hsz _ _).mono ?_; rintro _ _ ⟨rfl, rfl⟩; refine sI ?_
  refine sJ2 c27r12.eq_1 @hw ?_
  refine stX_blk [_, _, _] [] rfl (by simp) ⟨rfl, rfl⟩ ?_
  refine sI ?_
  intros
  generalize hnn : most - ((allB (T.take (k + 1))).length : Int) = nn at *
  intros; try refine go_seq ?_
  refine go_cut (fun e h => ¬ (0 < k ∧ nn < 0) ∧ e 9 = .pointer (some ⟨b9, 0, none⟩) ∧ h = ⟨G', [.reg 10 [.int .i64 x.base, .int .i64 x.last, .int .i64 x.src, .int .i64 x.epoch, .int .i64 x.pid, .int .i64 x.gen, .int .i64 x.seq, .bool x.txn, .int .i64 x.ctl, .slice B x.recs.length d], .row (.slice A2 (T.take k).length c2) 39 10 (T.take k).length zc, .blk b9 [.slice A2 (T.take k).length c2], .blk b5 [.int .i64 nn]], []⟩) ?_ ?_
  ·intros; refine gr 32 38 ?_; refine sJ c27r13.eq_1 ?_
   refine ⟨_, ldN_blk (.tail _ (.tail _ (.head _))) rfl, ?_⟩
   refine sI ?_
   refine gd (fun k4 => ?_) (fun k4 => ?_)
   ·have k4 : 0 < k := by have := of_decide_eq_true k4; omega
    refine sI ?_
    refine ⟨_, ldN_blk (.tail _ (.tail _ (.tail _ (.head _)))) rfl, ?_⟩
    refine sI ?_
    intros; refine gc ?_; refine sI ?_
    refine gb (fun k5 => ?_) (fun k5 => ?_)
    ·have k5 := of_decide_eq_true k5
     rw [if_pos ⟨k4, k5⟩, List.append_nil] at hfit
     refine go_exit ?_
     refine sI ?_
     exact rnd_e _ (.cons _ (.cons_cons _ (.cons_cons _ (List.nil_sublist _)))) (noRegs_row (noRegs_blk noRegs_nil)) ⟨_, zc, rfl, rfl, hzc, hfit⟩
    ·have k5 := of_decide_eq_false k5
     (intros; try refine go_st ?_)
     exact go_l ⟨fun h => k5 h.2, eE, rfl⟩
   ·have k4 : ¬ 0 < k := by have := of_decide_eq_false k4; omega
    refine sI ?_
    intros; refine gc ?_; refine sI ?_
    (intros; try refine go_st ?_)
    exact go_l ⟨fun h => k4 h.1, eE, rfl⟩
  rintro e h ⟨hno, e9, rfl⟩
  refine go_keep [9] ?_
  refine sJ @e9 ?_
  rw [if_neg hno] at hfit
  intros; refine gr 39 43 ?_; refine sJ c27r14.eq_1 ?_
  refine ⟨_, ldN_blk (.tail _ (.tail _ (.head _))) rfl, ?_⟩
  refine sI ?_
  intro bk hbk
  refine app1 (L1 := [_]) (L2 := [_, _]) (E := BE G') (x := x) rfl hbe0 rfl (by simp [Value.oneCell']) hzc (by omega) (by omega) fun A' c' zc' hzc' => ?_
  rw [← htk] at hzc' ⊢
  refine sI ?_
  refine stX_blk [_, _, _] [_] rfl (by simp) ⟨rfl, rfl⟩ ?_
  refine sI ?_
  (intros; try refine go_st ?_)
  refine go_nil (rnd_n _ (.cons _ (.cons _ (List.Sublist.refl _))) (noRegs_row (noRegs_blk (noRegs_blk noRegs_nil))) ⟨_, zc', rfl, hzc', ?_⟩)
  unfold fitT
  rw [hnn, hfit, htk, List.append_assoc]
  rfl
 ·rintro G' L' dd hgl ⟨u, zc, rfl, hzc, hfit⟩ _
  unfold fitT at hfit
  rw [List.take_length, List.drop_length] at hfit
  rw [List.take_length] at hzc ⊢
  refine go_b ?_
  have hT : asks false most T = T := by simpa [asks] using hfit
  rw [hT]
  refine go_gx (gx_knowS (.head _)) ?_
  rintro h' ⟨rfl, A2, c2, rfl, -, -⟩
  refine go_gx (gx_slv_at [] _ (by decide) hzc) ?_
  rintro h' ⟨G3, rfl, hg3, hv3⟩
  intros; refine gr 43 44 ?_; refine sJ c27r15.eq_1 ?_
  refine ⟨_, ldN_blk (.head _) rfl, ?_⟩
  refine sI ?_
  intros; refine rV ?_; simp only [push_cast, Nat.reduceBEq]
  exact ⟨_, _, rfl, hv3.le (.refl _) fun _ _ h => BE.le hg3 h⟩
 ·rintro ex k G' L' d hkl hgl ⟨u, zc, rfl, rfl, hzc, hfit⟩ _
  rw [hfit]
  refine sI ?_
  refine go_gx (gx_knowS (.head _)) ?_
  rintro h' ⟨rfl, A2, c2, rfl, -, -⟩
  refine go_gx (gx_slv_at [] _ (by decide) hzc) ?_
  rintro h' ⟨G3, rfl, hg3, hv3⟩
  intros; refine gr 43 44 ?_; refine sJ c27r15.eq_1 ?_
  refine ⟨_, ldN_blk (.head _) rfl, ?_⟩
  refine sI ?_
  intros; refine rV ?_; simp only [push_cast, Nat.reduceBEq]
  exact ⟨_, _, rfl, hv3.le (.refl _) fun _ _ h => BE.le hg3 h⟩
theorem F59 : Fun Tryz.prog 59 22 v59 c59 o59 := Fun.mkA Tryz.func59 Tryz.ntmps59
theorem F60 : Fun Tryz.prog 60 33 v60 c60 o60 := Fun.mkA Tryz.func60 Tryz.ntmps60
theorem F21 : Fun Tryz.prog 21 12 v21 c21 o21 := Fun.mkA Tryz.func21 Tryz.ntmps21
theorem F65 : Fun Tryz.prog 65 24 v65 c65 o65 := Fun.mkA Tryz.func65 Tryz.ntmps65
theorem F67 : Fun Tryz.prog 67 8 v67 c67 o67 := Fun.mkA Tryz.func67 Tryz.ntmps67
theorem F23 : Fun Tryz.prog 23 21 v23 c23 o23 := Fun.mkA Tryz.func23 Tryz.ntmps23
theorem F66 : Fun Tryz.prog 66 19 v66 c66 o66 := Fun.mkA Tryz.func66 Tryz.ntmps66
def cutL (l : Lg) (off : Int) (p : Lg) : Lg × Int := if chkL l = 0 then if betw l off = true then (p, 0) else (noneL, 90) else (noneL, chkL l)
def LgV (p : Lg) (G : Nat → Option Obj) (r : Value) : Prop := ∃ cs, r = .agg cs.toArray ∧ LE G p cs
theorem cut_ok (l : Lg) (off : Int) (f : Nat) (cap : Array Value) (p : Lg) (cs : List Value) (G : Nat → Option Obj) (hl : LE G l cs) (hb : smL l.segs) (hm : l.segs.length ≤ 1000000)
  (hf : chkL l = 0 → betw l off = true → FnD Tryz.prog f cap G (LgV p)) :
  FnD Tryz.prog 59 #[.agg cs.toArray, .int .i64 off, .func (.func f) #[] cap] G (LgR (cutL l off p)) := by
 have hl0 := hl
 have hchk := ChkL_ok l cs G hl hb
 have hbt := between_ok l off cs G hl hb
 obtain ⟨A, c, rfl, hsl, hi, hj⟩ := hl
 refine F59.fnD (by simp) (go_of ?_)
 unfold c59
 unfold cellL at hchk hbt hl0 ⊢
 intros; refine gr 0 0 ?_; refine sJ c59r0.eq_1 ?_
 intros; refine gr 9 11 ?_; refine sJ c59r1.eq_1 ?_
 refine (hchk _ _).mono ?_; rintro _ _ ⟨rfl, rfl⟩; refine sI ?_
 intros; refine gr 11 12 ?_; refine sJ c59r2.eq_1 ?_
 intros; refine gc ?_; refine sI ?_
 refine gb (fun k1 => ?_) (fun k1 => ?_)
 ·have k1 := of_decide_eq_true k1
  intros; refine gr 13 15 ?_; refine sJ c59r3.eq_1 ?_
  intros; refine rV ?_; simp only [push_cast, Nat.reduceBEq]
  rw [cutL, if_neg k1]
  exact noneL_r
 have k1 : chkL l = 0 := by simpa using k1
 obtain ⟨c1, c2, c3, c4⟩ := chkL_0 k1
 intros; refine gN ?_
 intros; refine gr 15 18 ?_; refine sJ c59r4.eq_1 ?_
 refine (hbt c2 hm _ _).mono ?_; rintro _ _ ⟨rfl, rfl⟩; refine sI ?_
 intros; refine gc ?_; refine sI ?_
 refine gb (fun k2 => ?_) (fun k2 => ?_)
 ·have k2 : betw l off = false := by simpa using k2
  intros; refine gr 19 20 ?_; refine sJ c59r5.eq_1 ?_
  intros; refine rV ?_; simp only [push_cast, Nat.reduceBEq]
  rw [cutL, if_pos k1, if_neg (by rw [k2]; simp)]
  exact noneL_r
 have k2 : betw l off = true := by simpa using k2
 intros; refine gN ?_
 intros; refine gr 20 22 ?_; refine sJ c59r6.eq_1 ?_
 refine .inl ⟨f, cap, rfl, ?_⟩
 rw [show (#[] ++ cap : Array Value) = cap by simp]
 refine (hf k1 k2 _ _).mono ?_
 rintro r h' ⟨G1, rfl, hg1, cs, rfl, hle⟩
 obtain ⟨A1, c1, rfl, hs1⟩ := hle
 unfold cellL
 refine sI ?_
 intros; refine rV ?_; simp only [push_cast, Nat.reduceBEq]
 rw [cutL, if_pos k1, if_pos k2]
 exact ⟨_, rfl, A1, c1, rfl, hs1⟩
def firstI {α : Type} (p : α → Bool) : List α → Nat → Int
 | [], _ => -1
 | x :: l, i => if p x = true then (i : Int) else firstI p l (i + 1)
theorem firstI_at {α : Type} {p : α → Bool} {l : List α} {k : Nat} {x : α} (h : l[k]? = some x) (i : Nat) : firstI p (l.drop k) i = if p x = true then (i : Int) else firstI p (l.drop (k + 1)) (i + 1) := by
 obtain ⟨h1, h2⟩ := List.getElem?_eq_some_iff.1 h
 rw [List.drop_eq_getElem_cons h1, h2, firstI]
theorem IndexFunc_ok (l : List Sg) (p : Sg → Bool) (f : Nat) (cap : Array Value) (v : Value) (G : Nat → Option Obj) (hl : SlV G (SE G) 2 v l) (hf : ∀ s cs, s ∈ l → SE G s cs → FnS Tryz.prog f (#[.agg cs.toArray] ++ cap) G (.bool (p s))) :
  FnS Tryz.prog 66 #[v, .func (.func f) #[] cap] G (.int .i64 (firstI p l 0)) := by
 obtain ⟨A, c, rfl, hc, hmx, hA⟩ := hl
 refine F66.fnS (by simp) (go_of ?_)
 unfold c66
 intros; refine gr 0 0 ?_; refine sJ c66r0.eq_1 ?_
 intros; refine gr 6 7 ?_; refine sJ c66r1.eq_1 ?_
 (intros; try refine go_st ?_)
 refine go_loop (fun e h => ∃ k : Nat, (k ≤ l.length ∧ firstI p l 0 = firstI p (l.drop k) k) ∧ e 8 = .int .i64 k ∧ e 7 = .int .i64 l.length ∧ e 0 = .slice A l.length c ∧ e 1 = .func (.func f) #[] cap ∧ h = ⟨G, [], []⟩) (fun e h => l.length - iv (e 8)) ?_ ?_
 ·exact ⟨0, ⟨Nat.zero_le _, rfl⟩, eE, eE, eE, eE, rfl⟩
 rintro e h ⟨k, ⟨hk, hfi⟩, e8, e7, e0, e1, rfl⟩
 refine go_keep [0, 1, 7, 8] ?_
 refine sJ4 @e0 @e1 @e7 @e8 ?_
 intros; refine gr 0 0 ?_; refine sJ c66r2.eq_1 ?_
 intros; refine gc ?_; refine sI ?_
 refine gb (fun ht => ?_) (fun ht => ?_)
 ·have ht : k < l.length := by have := of_decide_eq_true ht; omega
  have hw := inc_i k c (by omega) hmx
  obtain ⟨s, hs⟩ : ∃ s, l[k]? = some s := ⟨l[k], List.getElem?_eq_getElem (by omega)⟩
  rw [firstI_at hs] at hfi
  intros; refine gN ?_
  intros; refine gr 10 11 ?_; refine sJ c66r3.eq_1 ?_
  intros; refine gr 11 16 ?_; refine sJ c66r4.eq_1 ?_
  refine hA.x_ld hs rfl rfl ?_
  rintro a1 ha1 cs hse
  have hcl := hf s cs (List.mem_of_getElem? hs) hse
  obtain ⟨B, d, rfl, hsb, hsi⟩ := hse
  unfold cellS at hcl ⊢
  refine sI ?_
  refine .inl ⟨f, cap, rfl, ?_⟩
  refine (hcl _ _).mono ?_; rintro _ _ ⟨rfl, rfl⟩; refine sI ?_
  intros; refine gc ?_; refine sI ?_
  refine gb (fun k1 => ?_) (fun k1 => ?_)
  ·rw [if_pos k1] at hfi
   intros; refine gr 17 18 ?_; refine sJ c66r5.eq_1 ?_
   intros; refine rV ?_; simp only [push_cast, Nat.reduceBEq]
   rw [hfi]
  ·rw [if_neg (by rw [k1]; simp)] at hfi
   intros; refine gN ?_
   intros; refine gr 18 19 ?_; refine sJ2 c66r6.eq_1 @hw ?_
   (intros; try refine go_st ?_)
   refine go_l ⟨⟨k + 1, ⟨by omega, hfi⟩, eE, eE, eE, eE, rfl⟩, ?_⟩
   refine sI ?_
   omega
 ·have ht : k = l.length := by have := of_decide_eq_false ht; omega
  subst ht
  rw [List.drop_length, firstI] at hfi
  refine go_exit ?_
  refine sI ?_
  intros; refine gr 0 0 ?_; refine sJ c66r7.eq_1 ?_
  intros; refine rV ?_; simp only [push_cast, Nat.reduceBEq]
  rw [hfi]
theorem ownSg_d {P : Program} {f : FuncId} {args : Array Value} {G : Nat → Option Obj} {s : Sg} (hf : FnO P f args G [] (fun _ L' r => OwnSg s L' r)) : FnD P f args G (fun G' r => ∃ A c, r = .agg #[.int .i64 s.base, .slice A s.bytes.length c] ∧ SB G' (.slice A s.bytes.length c) s.bytes) :=
 FnO.fnD (L1 := []) (ownSg_sl hf) fun G' L' v ⟨A, c, zc, h1, _, h2, h3⟩ _ L D => by
  subst h2
  exact (gx_slv (by decide) h3).mono fun h' ⟨G2, e1, e2, e3⟩ => ⟨G2, e1, e2, A, c, h1, e3⟩
theorem truS_take {l : List Sg} {k : Nat} {s : Sg} (to : Int) (h : l[k]? = some s) : truS (l.take (k + 1)) to = truS (l.take k) to ++ if s.base < to then [cutS s to] else [] := by
 unfold truS
 rw [take_snoc' h, List.filter_append, List.map_append]
 congr 1
 by_cases hh : s.base < to <;> simp [hh]
theorem truS_len (l : List Sg) (to : Int) : (truS l to).length ≤ l.length := by
 unfold truS
 rw [List.length_map]
 exact List.length_filter_le _ _
theorem Truncate1_ok (l : Lg) (to : Int) (A : Option Addr) (c b2 b3 : Nat) (G : Nat → Option Obj) (hsl : SlV G (SE G) 2 (.slice A l.segs.length c) l.segs) (hi : I64 l.limit) (hj : I64 l.start) (hb : smL l.segs) (hm : l.segs.length ≤ 1000) (hto : I64 to)
  (h2 : ∀ j u, ([.int .i64 l.limit, .int .i64 l.start, .slice A l.segs.length c] : List Value)[j]? = some u → cellG G (Addr.add ⟨b2, 0, none⟩ j) = some u) (h3 : cellG G ⟨b3, 0, none⟩ = some (.int .i64 to)) :
  FnD Tryz.prog 60 #[.pointer (some ⟨b2, 0, none⟩), .pointer (some ⟨b3, 0, none⟩)] G (LgV ⟨l.limit, l.start, truT l.segs to⟩) := by
 have hsl0 := hsl
 have h22 := h2 2 _ rfl
 rw [add_off] at h22
 obtain ⟨A0, c0, he, hc, hmx, hA⟩ := hsl
 cases he
 refine F60.fnD (by simp) (go_of ?_)
 unfold c60
 intros; refine gr 0 0 ?_; refine sJ c60r0.eq_1 ?_
 intros; refine gr 0 0 ?_; refine sJ c60r1.eq_1 ?_
 intros; refine gr 6 7 ?_; refine sJ c60r2.eq_1 ?_
 refine ⟨_, ⟨_, rfl, .g h22⟩, ?_⟩
 refine sI ?_
 intros
 refine go_ghost (ghost_nil none 55 2) ?_
 refine go_cut (fun e h => ∃ (G' : Nat → Option Obj) (u : Value) (zc : List Value), (Gle G G' ∧ Cells (SE G') 2 (truS l.segs to) zc) ∧ e 3 = u ∧ e 0 = .pointer (some ⟨b2, 0, none⟩) ∧ e 1 = .pointer (some ⟨b3, 0, none⟩) ∧ h = ⟨G', [.row u 55 2 (truS l.segs to).length zc, .reg 2 [.int .i64 0, .int .i64 0, .slice none 0 0]], []⟩) ?_ ?_
 ·(intros; try refine go_st ?_)
  refine go_loop (fun e h => ∃ (k : Nat) (G' : Nat → Option Obj) (u : Value) (zc : List Value), (k ≤ l.segs.length ∧ Gle G G' ∧ Cells (SE G') 2 (truS (l.segs.take k) to) zc) ∧ e 9 = .int .i64 k ∧ e 8 = .int .i64 l.segs.length ∧ e 7 = .slice A l.segs.length c ∧ e 3 = u ∧ e 0 = .pointer (some ⟨b2, 0, none⟩) ∧ e 1 = .pointer (some ⟨b3, 0, none⟩) ∧ h = ⟨G', [.row u 55 2 (truS (l.segs.take k) to).length zc, .reg 2 [.int .i64 0, .int .i64 0, .slice none 0 0]], []⟩) (fun e h => l.segs.length - iv (e 9)) ?_ ?_
  ·exact ⟨0, G, .slice none 0 0, [], ⟨Nat.zero_le _, .refl _, .nil⟩, eE, eE, eE, eE, eE, eE, rfl⟩
  rintro e h ⟨k, G', u, zc, ⟨hk, hg', hzc⟩, e9, e8, e7, e3, e0, e1, rfl⟩
  refine go_keep [0, 1, 3, 7, 8, 9] ?_
  refine sJ6 @e0 @e1 @e3 @e7 @e8 @e9 ?_
  intros; refine gr 0 0 ?_; refine sJ c60r3.eq_1 ?_
  intros; refine gc ?_; refine sI ?_
  refine gb (fun ht => ?_) (fun ht => ?_)
  ·have ht : k < l.segs.length := by have := of_decide_eq_true ht; omega
   have hw := inc_i k c (by omega) hmx
   obtain ⟨s, hs⟩ : ∃ s, l.segs[k]? = some s := ⟨l.segs[k], List.getElem?_eq_getElem (by omega)⟩
   have hbs := hb s (List.mem_of_getElem? hs)
   have htr := truS_take to hs
   have hA' := hA.le hg' (E' := SE G') fun _ _ h => SE.le hg' h
   have h3' := cellG_le hg' h3
   have hlen := truS_len (l.segs.take k) to
   rw [List.length_take] at hlen
   intros; refine gN ?_
   intros; refine gr 11 13 ?_; refine sJ c60r4.eq_1 ?_
   refine hA'.x_ld hs rfl rfl ?_
   rintro a1 ha1 cs hse
   have hcut := ownSg_d (Cut_ok s to cs G' hse (by omega) hto)
   obtain ⟨B, d, rfl, hsb, hsi⟩ := hse
   unfold cellS at hcut ⊢
   refine sI ?_
   intros; refine gr 14 16 ?_; refine sJ c60r5.eq_1 ?_
   refine ⟨_, ⟨_, rfl, .g h3'⟩, ?_⟩
   refine sI ?_
   intros; refine gc ?_; refine sI ?_
   refine gb (fun k1 => ?_) (fun k1 => ?_)
   ·have k1 := of_decide_eq_true k1
    rw [if_pos k1] at htr
    intros; refine gr 17 23 ?_; refine sJ c60r6.eq_1 ?_
    refine ⟨_, ⟨_, rfl, .g h3'⟩, ?_⟩
    refine sI ?_
    refine (hcut _ _).mono ?_
    rintro r h' ⟨G2, rfl, hg2, A2, c2, rfl, hs2⟩
    refine sI ?_
    intro bk hbk
    refine app1 (L1 := [_]) (L2 := [_]) (E := SE G2) (x := cutS s to) rfl ⟨A2, c2, rfl, hs2, hsi⟩ rfl (by simp [Value.oneCell']) (cells_imp hzc fun _ _ h => SE.le hg2 h) (by omega) (by omega) fun A' c' zc' hzc' => ?_
    rw [← htr] at hzc' ⊢
    refine sI ?_
    intros
    refine go_ghost (ghost_sub (.cons _ (.cons _ (List.Sublist.refl _)))) ?_
    intros; refine gr 23 24 ?_; refine sJ2 c60r7.eq_1 @hw ?_
    (intros; try refine go_st ?_)
    refine go_l ⟨⟨k + 1, G2, _, zc', ⟨by omega, hg'.trans hg2, hzc'⟩, eE, eE, eE, eE, eE, eE, rfl⟩, ?_⟩
    refine sI ?_
    omega
   ·have k1 := of_decide_eq_false k1
    rw [if_neg k1, List.append_nil] at htr
    intros; refine gN ?_
    refine go_ghost (ghost_sub (L' := [.row u 55 2 (truS (l.segs.take k) to).length zc, .reg 2 [.int .i64 0, .int .i64 0, .slice none 0 0]]) (.cons _ (List.Sublist.refl _))) ?_
    intros; refine gr 23 24 ?_; refine sJ2 c60r7.eq_1 @hw ?_
    (intros; try refine go_st ?_)
    rw [← htr] at hzc ⊢
    refine go_l ⟨⟨k + 1, G', _, zc, ⟨by omega, hg', hzc⟩, eE, eE, eE, eE, eE, eE, rfl⟩, ?_⟩
    refine sI ?_
    omega
  ·have ht : k = l.segs.length := by have := of_decide_eq_false ht; omega
   subst ht
   rw [List.take_length] at hzc ⊢
   refine go_exit ?_
   refine sI ?_
   intros; refine gN ?_
   exact go_l ⟨G', u, zc, ⟨hg', hzc⟩, eE, eE, eE, rfl⟩
 rintro e h ⟨G1, u, zc, ⟨hg1, hzc⟩, e3, e0, e1, rfl⟩
 refine go_keep [0, 1, 3] ?_
 refine sJ3 @e0 @e1 @e3 ?_
 intros
 intros; try refine go_seq ?_
 refine go_gx (gx_knowS (.head _)) ?_
 rintro h' ⟨rfl, A2, c2, rfl, -, -⟩
 refine go_cut (fun e h => ∃ (A2 : Option Addr) (c2 : Nat) (zc : List Value) (Lh : List Kx.Item), Cells (SE G1) 2 (truT l.segs to) zc ∧ e 3 = .slice A2 (truT l.segs to).length c2 ∧ e 0 = .pointer (some ⟨b2, 0, none⟩) ∧ e 1 = .pointer (some ⟨b3, 0, none⟩) ∧ h = ⟨G1, Lh, []⟩ ∧ ([.row (.slice A2 (truT l.segs to).length c2) 55 2 (truT l.segs to).length zc, .reg 2 [.int .i64 0, .int .i64 0, .slice none 0 0]] : List Kx.Item).Sublist Lh) ?_ ?_
 ·intros; refine gr 24 26 ?_; refine sJ c60r8.eq_1 ?_
  intros; refine gc ?_; refine sI ?_
  refine gb (fun k1 => ?_) (fun k1 => ?_)
  ·have k1 : truS l.segs to = [] := List.eq_nil_of_length_eq_zero (by have := of_decide_eq_true k1; omega)
   have ht : truT l.segs to = [⟨to, []⟩] := by rw [truT, if_pos k1]
   rw [ht]
   intros; refine gr 27 30 ?_; refine sJ c60r9.eq_1 ?_
   refine ⟨_, ⟨_, rfl, .g (cellG_le hg1 h3)⟩, ?_⟩
   refine sI ?_
   intro bk hbk
   refine sI ?_
   (intros; try refine go_st ?_)
   exact go_l ⟨_, _, _, _, Cells.one (E := SE G1) (x := ⟨to, []⟩) ⟨none, 0, rfl, SB.nil, hto⟩ rfl, eE, eE, eE, rfl, .cons_cons _ (.cons _ (List.Sublist.refl _))⟩
  ·have k1 : ¬ truS l.segs to = [] := fun h => by rw [h] at k1; simp at k1
   have ht : truT l.segs to = truS l.segs to := by rw [truT, if_neg k1]
   rw [ht]
   intros; refine gN ?_
   exact go_l ⟨_, _, _, _, hzc, eE, eE, eE, rfl, List.Sublist.refl _⟩
 rintro e h ⟨A2, c2, zc, Lh, hzc, e3, e0, e1, rfl, hsub⟩
 refine go_keep [0, 1, 3] ?_
 refine sJ3 @e0 @e1 @e3 ?_
 intros
 refine go_ghost (ghost_sub hsub) ?_
 refine go_gx (gx_slv_at [] _ (by decide) hzc) ?_
 rintro h' ⟨G2, rfl, hg2, hv2⟩
 have hg02 := hg1.trans hg2
 intros; refine gr 30 33 ?_; refine sJ c60r10.eq_1 ?_
 refine ⟨_, ⟨_, [.int .i64 l.limit, .int .i64 l.start, .slice A l.segs.length c], rfl, rfl, rfl, fun j u hu => .g (cellG_le hg02 (h2 j u hu))⟩, ?_⟩
 refine sI ?_
 refine (with_ok _ _ _ _ _ _ _ _ _ _ _).mono ?_; rintro _ _ ⟨rfl, rfl⟩; refine sI ?_
 intros; refine rV ?_; simp only [push_cast, Nat.reduceBEq]
 exact ⟨_, rfl, A2, c2, rfl, hv2.le (.refl _) fun _ _ h => SE.le hg2 h, hi, hj⟩
theorem Truncate_ok (l : Lg) (to : Int) (cs : List Value) (G : Nat → Option Obj) (hl : LE G l cs) (hb : smL l.segs) (hm : l.segs.length ≤ 1000) (hto : I64 to) :
  FnD Tryz.prog 21 #[.agg cs.toArray, .int .i64 to] G (LgR (truL l to)) := by
 have hl0 := hl
 obtain ⟨A, c, rfl, hsl, hi, hj⟩ := hl
 refine F21.fnD (by simp) (go_of ?_)
 unfold c21
 unfold cellL at hl0 ⊢
 intros; refine gr 0 0 ?_; refine sJ c21r0.eq_1 ?_
 intro b2 hb2 b3 hb3
 (intros; try refine go_st ?_)
 refine go_gx (gx_blk_at [_] _) ?_
 rintro h' ⟨G1, rfl, hg1, f3⟩
 refine go_gx (gx_blk_at [_] _) ?_
 rintro h' ⟨G2, rfl, hg2, f2⟩
 have e3 := cellG_le hg2 (f3 0 _ rfl)
 rw [add_off] at e3
 have hg02 := hg1.trans hg2
 intros; refine gr 6 12 ?_; refine sJ c21r1.eq_1 ?_
 refine ⟨_, ⟨_, [.int .i64 l.limit, .int .i64 l.start, .slice A l.segs.length c], rfl, rfl, rfl, fun j u hu => .g (f2 j u hu)⟩, ?_⟩
 refine sI ?_
 refine ⟨_, ⟨_, rfl, .g e3⟩, ?_⟩
 refine sI ?_
 refine (cut_ok l to 60 _ _ _ G2 (LE.le hg02 hl0) hb (by omega) (fun _ _ => Truncate1_ok l to A c b2 b3 G2 (SlSE.le hg02 hsl) hi hj hb hm hto f2 e3) _ _).mono ?_
 rintro r h' ⟨G3, rfl, hg3, cs, rfl, hle⟩
 have hle0 := hle
 obtain ⟨A3, c3, rfl, hs3⟩ := hle
 unfold cellL
 refine sI ?_
 intros; refine rV ?_; simp only [push_cast, Nat.reduceBEq]
 exact ⟨_, rfl, hle0⟩
theorem Trim11_ok (st : Int) (s : Sg) (b : Nat) (cs : List Value) (G : Nat → Option Obj) (hs : SE G s cs) (hb : s.bytes.length ≤ 1000000) (h : cellG G ⟨b, 0, none⟩ = some (.int .i64 st)) :
  FnS Tryz.prog 67 #[.agg cs.toArray, .pointer (some ⟨b, 0, none⟩)] G (.bool (decide (st < endB s))) := by
 have hend := End_ok s cs G hs hb
 obtain ⟨A, c, rfl, hl, hi⟩ := hs
 refine F67.fnS (by simp) (go_of ?_)
 unfold c67
 unfold cellS at hend ⊢
 intros; refine gr 0 0 ?_; refine sJ c67r0.eq_1 ?_
 (intros; try refine go_st ?_); refine go_x _ (List.Sublist.refl _) (by decide) ?_; refine sJ c67r1.eq_1 ?_
 refine ⟨_, ⟨_, rfl, .g h⟩, ?_⟩
 refine sI ?_
 refine (hend _ _).mono ?_; rintro _ _ ⟨rfl, rfl⟩; refine sI ?_
 intros; refine rV ?_; simp only [push_cast, Nat.reduceBEq]
theorem trm_at (st : Int) : ∀ (l : List Sg) (i : Nat), l ≠ [] → (firstI (fun s => decide (st < endB s)) (l.take (l.length - 1)) i = -1 ∧ trmN st l = l.length - 1) ∨ (firstI (fun s => decide (st < endB s)) (l.take (l.length - 1)) i = ((i + trmN st l : Nat) : Int) ∧ trmN st l < l.length - 1)
 | [], i, h => absurd rfl h
 | [s], i, h => .inl ⟨rfl, rfl⟩
 | s :: t :: l, i, h => by
  have e : (s :: t :: l).take ((s :: t :: l).length - 1) = s :: (t :: l).take ((t :: l).length - 1) := by simp [List.take_succ_cons]
  rw [e, firstI, trmN]
  by_cases hh : st < endB s
  ·rw [if_pos (decide_eq_true hh), if_neg (by omega)]
   exact .inr ⟨by simp, by simp⟩
  ·rw [if_neg (by simpa using hh), if_pos (by omega)]
   rcases trm_at st (t :: l) (i + 1) (by simp) with ⟨h1, h2⟩ | ⟨h1, h2⟩
   ·exact .inl ⟨h1, by rw [h2]; simp⟩
   ·refine .inr ⟨by rw [h1]; omega, by simp only [List.length_cons] at h2 ⊢; omega⟩
theorem Trim1_ok (l : Lg) (st : Int) (A : Option Addr) (c b2 b3 : Nat) (G : Nat → Option Obj) (hsl : SlV G (SE G) 2 (.slice A l.segs.length c) l.segs) (hi : I64 l.limit) (hj : I64 l.start) (hb : smL l.segs) (hn : l.segs ≠ []) (hm : l.segs.length ≤ 1000) (hst : I64 st)
  (h2 : ∀ j u, ([.int .i64 l.limit, .int .i64 l.start, .slice A l.segs.length c] : List Value)[j]? = some u → cellG G (Addr.add ⟨b2, 0, none⟩ j) = some u) (h3 : cellG G ⟨b3, 0, none⟩ = some (.int .i64 st)) :
  FnD Tryz.prog 65 #[.pointer (some ⟨b2, 0, none⟩), .pointer (some ⟨b3, 0, none⟩)] G (LgV ⟨l.limit, st, l.segs.drop (trmN st l.segs)⟩) := by
 have hsl0 := hsl
 have h22 := h2 2 _ rfl
 have h20 := h2 0 _ rfl
 rw [add_off] at h22 h20
 obtain ⟨A0, c0, he, hc, hmx, hA⟩ := hsl
 cases he
 have h0 : 0 < l.segs.length := List.length_pos_iff.2 hn
 have ht1 : ((l.segs.length : Int) - 1).toNat = l.segs.length - 1 := by omega
 have hpre := SlV.pre (l.segs.length - 1) hsl0 (by omega)
 have hix := IndexFunc_ok (l.segs.take (l.segs.length - 1)) (fun s => decide (st < endB s)) 67 #[.pointer (some ⟨b3, 0, none⟩)] _ G hpre fun s cs hm hs => Trim11_ok st s b3 cs G hs (by have := hb s (List.mem_of_mem_take hm); omega) h3
 have htr := trm_at st l.segs 0 hn
 refine F65.fnD (by simp) (go_of ?_)
 unfold c65
 intros; refine gr 0 0 ?_; refine sJ c65r0.eq_1 ?_
 (intros; try refine go_st ?_); refine go_x _ (List.Sublist.refl _) (by decide) ?_; refine sJ c65r1.eq_1 ?_
 refine ⟨_, ⟨_, rfl, .g h22⟩, ?_⟩
 refine sI ?_
 refine ⟨_, ⟨_, [.int .i64 l.limit, .int .i64 l.start, .slice A l.segs.length c], rfl, rfl, rfl, fun j u hu => .g (h2 j u hu)⟩, ?_⟩
 refine sI ?_
 refine (last_ok l A c _ (by omega) _ _).mono ?_; rintro _ _ ⟨rfl, rfl⟩; refine sI ?_
 refine ⟨by omega, ?_⟩
 refine sJ @ht1 ?_
 refine (hix _ _).mono ?_; rintro _ _ ⟨rfl, rfl⟩; refine sI ?_
 intros
 intros; try refine go_seq ?_
 have hle : trmN st l.segs ≤ l.segs.length := by omega
 refine go_cut (fun e h => e 3 = .int .i64 ((trmN st l.segs : Nat) : Int) ∧ e 0 = .pointer (some ⟨b2, 0, none⟩) ∧ e 1 = .pointer (some ⟨b3, 0, none⟩) ∧ h = ⟨G, [.reg 2 [.int .i64 0, .int .i64 0, .slice none 0 0]], []⟩) ?_ ?_
 ·generalize firstI (fun s => decide (st < endB s)) (l.segs.take (l.segs.length - 1)) 0 = fi at *
  intros; refine gr 11 12 ?_; refine sJ c65r2.eq_1 ?_
  intros; refine gc ?_; refine sI ?_
  refine gb (fun k1 => ?_) (fun k1 => ?_)
  ·have k1 := of_decide_eq_true k1
   have hfi : trmN st l.segs = l.segs.length - 1 := by omega
   have hfi2 : ((trmN st l.segs : Nat) : Int) = (l.segs.length : Int) - 1 := by omega
   rw [hfi2]
   intros; refine gr 13 15 ?_; refine sJ c65r3.eq_1 ?_
   refine ⟨_, ⟨_, [.int .i64 l.limit, .int .i64 l.start, .slice A l.segs.length c], rfl, rfl, rfl, fun j u hu => .g (h2 j u hu)⟩, ?_⟩
   refine sI ?_
   refine (last_ok l A c _ (by omega) _ _).mono ?_; rintro _ _ ⟨rfl, rfl⟩; refine sI ?_
   (intros; try refine go_st ?_)
   exact go_l ⟨eE, eE, eE, rfl⟩
  ·have k1 := of_decide_eq_false k1
   have hfi2 : ((trmN st l.segs : Nat) : Int) = fi := by omega
   rw [hfi2]
   intros; refine gN ?_
   exact go_l ⟨eE, eE, eE, rfl⟩
 rintro e h ⟨e3, e0, e1, rfl⟩
 refine go_keep [0, 1, 3] ?_
 refine sJ3 @e0 @e1 @e3 ?_
 generalize hnn : trmN st l.segs = n at *
 (intros; try refine go_st ?_); refine go_y _ (List.Sublist.refl _) (by decide) ?_; refine sJ c65r4.eq_1 ?_
 refine ⟨_, ⟨_, rfl, .g h20⟩, ?_⟩
 refine sI ?_
 refine ⟨_, ⟨_, rfl, .g h3⟩, ?_⟩
 refine sI ?_
 refine ⟨_, ⟨_, rfl, .g h22⟩, ?_⟩
 refine sJ @sqY_i ?_
 refine ⟨⟨by omega, by omega, by omega, by omega⟩, ?_⟩
 have hn3 : trmN st l.segs < l.segs.length := by rcases htr with h | h <;> omega
 have hds : SlV G (SE G) 2 (.slice (if c = n then A else A.map (·.add (n * 2))) (l.segs.length - n) (c - n)) (l.segs.drop n) := by
  refine ⟨_, _, by rw [List.length_drop], by rw [List.length_drop]; omega, by omega, ?_⟩
  have := hA.cut (l := n) (n := l.segs.length) (B := if c = n then A else A.map (·.add (n * 2))) (Nat.le_refl _) (fun h => by rw [if_neg (by omega)])
  rw [List.take_length] at this
  exact this
 have hcl := CloneS_ok (l.segs.drop n) _ G hds (by rw [List.length_drop]; omega)
 refine sI ?_
 refine (ownN_sl hcl _ _).mono ?_
 rintro r h' ⟨G1, L', rfl, hg1, A4, c4, ys, rfl, -, hys, rfl⟩
 refine ⟨grow_L hg1 (.cons _ (List.Sublist.refl _)), ?_⟩
 generalize l.segs.drop n = ZS at *
 refine sI ?_
 refine sJ c65r5.eq_1 ?_
 (intros; try refine go_st ?_)
 refine go_gx (gx_slv_at [] _ (by decide) hys) ?_
 rintro h' ⟨G2, rfl, hg2, hv2⟩
 intros; refine rV ?_; simp only [push_cast, Nat.reduceBEq]
 exact ⟨_, rfl, A4, c4, rfl, hv2.le (.refl _) fun _ _ h => SE.le (hg1.trans hg2) h, hi, hst⟩
theorem Trim_ok (l : Lg) (st : Int) (cs : List Value) (G : Nat → Option Obj) (hl : LE G l cs) (hb : smL l.segs) (hm : l.segs.length ≤ 1000) (hst : I64 st) :
  FnD Tryz.prog 23 #[.agg cs.toArray, .int .i64 st] G (LgR (trmL l st)) := by
 have hl0 := hl
 obtain ⟨A, c, rfl, hsl, hi, hj⟩ := hl
 refine F23.fnD (by simp) (go_of ?_)
 unfold c23
 unfold cellL at hl0 ⊢
 intros; refine gr 0 0 ?_; refine sJ c23r0.eq_1 ?_
 intro b2 hb2 b3 hb3
 (intros; try refine go_st ?_)
 refine go_gx (gx_blk_at [_] _) ?_
 rintro h' ⟨G1, rfl, hg1, f3⟩
 refine go_gx (gx_blk_at [_] _) ?_
 rintro h' ⟨G2, rfl, hg2, f2⟩
 have e3 := cellG_le hg2 (f3 0 _ rfl)
 rw [add_off] at e3
 have hg02 := hg1.trans hg2
 have hchk := ChkL_ok l _ G2 (LE.le hg02 hl0) hb
 have hrest : ∀ (fr : List Td) (e : Env), ¬ (inO st = false ∧ chkL l = 0) → e 2 = .pointer (some ⟨b2, 0, none⟩) → e 3 = .pointer (some ⟨b3, 0, none⟩) →
   go none Tryz.prog 21 v23.1 v23.2 (retQ o23 fun v h => LgR (trmL l st) h.G v) (Td.s ((SC.reg false c23r3).seq .ret) :: fr) e ⟨G2, [.reg 4 [.int .i64 0, .int .i64 0, .slice none 0 0]], []⟩ := fun fr e hno e2 e33 => by
  refine go_keep [2, 3] ?_
  refine sJ2 @e2 @e33 ?_
  intros; refine gr 15 21 ?_; refine sJ c23r3.eq_1 ?_
  refine ⟨_, ⟨_, [.int .i64 l.limit, .int .i64 l.start, .slice A l.segs.length c], rfl, rfl, rfl, fun j u hu => .g (f2 j u hu)⟩, ?_⟩
  refine sI ?_
  refine ⟨_, ⟨_, rfl, .g e3⟩, ?_⟩
  refine sI ?_
  refine (cut_ok l st 65 _ _ _ G2 (LE.le hg02 hl0) hb (by omega) (fun k1 _ => Trim1_ok l st A c b2 b3 G2 (SlSE.le hg02 hsl) hi hj hb (chkL_0 k1).2.1 hm hst f2 e3) _ _).mono ?_
  rintro r h' ⟨G3, rfl, hg3, cs, rfl, hle⟩
  have hle0 := hle
  obtain ⟨A3, c3, rfl, hs3⟩ := hle
  unfold cellL
  refine sI ?_
  intros; refine rV ?_; simp only [push_cast, Nat.reduceBEq]
  have hp : cutL l st ⟨l.limit, st, l.segs.drop (trmN st l.segs)⟩ = trmL l st := by
   unfold cutL trmL
   by_cases k : chkL l = 0
   ·rw [if_pos k, if_pos k]
    have : inO st = true := by
     by_cases h : inO st = true
     ·exact h
     ·exact absurd ⟨by simpa using h, k⟩ hno
    simp [this]
   ·rw [if_neg k, if_neg k]
  rw [hp] at hle0 ⊢
  exact ⟨_, rfl, hle0⟩
 intros; refine gr 6 13 ?_; refine sJ c23r1.eq_1 ?_
 refine ⟨_, ⟨_, rfl, .g e3⟩, ?_⟩
 refine sI ?_
 refine (offset_ok _ _ _ _).mono ?_; rintro _ _ ⟨rfl, rfl⟩; refine sI ?_
 refine gd (fun k1 => ?_) (fun k1 => ?_)
 ·have k1 : inO st = false := by simpa using k1
  refine sI ?_
  refine ⟨_, ⟨_, [.int .i64 l.limit, .int .i64 l.start, .slice A l.segs.length c], rfl, rfl, rfl, fun j u hu => .g (f2 j u hu)⟩, ?_⟩
  refine sI ?_
  refine (hchk _ _).mono ?_; rintro _ _ ⟨rfl, rfl⟩; refine sI ?_
  intros; refine gc ?_; refine sI ?_
  refine gb (fun k2 => ?_) (fun k2 => ?_)
  ·have k2 := of_decide_eq_true k2
   intros; refine gr 14 15 ?_; refine sJ c23r2.eq_1 ?_
   intros; refine rV ?_; simp only [push_cast, Nat.reduceBEq]
   rw [trmL, if_pos k2, if_neg (by rw [k1]; simp)]
   exact noneL_r
  ·have k2 := of_decide_eq_false k2
   intros; refine gN ?_
   refine hrest _ _ (fun h => k2 h.2) ?_ ?_
   ·(refine sI ?_; try with_reducible exact True.intro)
   ·(refine sI ?_; try with_reducible exact True.intro)
 ·have k1 : inO st = true := by simpa using k1
  refine sI ?_
  intros; refine gc ?_; refine sI ?_
  intros; refine gN ?_
  refine hrest _ _ (fun h => by rw [k1] at h; cases h.1) ?_ ?_
  ·(refine sI ?_; try with_reducible exact True.intro)
  ·(refine sI ?_; try with_reducible exact True.intro)
theorem F25 : Fun Tryz.prog 25 68 v25 c25 o25 := Fun.mkA Tryz.func25 Tryz.ntmps25
theorem ofL_ok' {limit : Int} (hl : limO limit = true) : ∀ {s : Sg} {l : List Batch}, s.bytes.length ≤ 4096 → (ofL limit s l).2 = 0 → (ofL limit s l).1.base = s.base ∧ (ofL limit s l).1.bytes.length ≤ 4096
 | s, [], h, _ => ⟨rfl, h⟩
 | s, b :: l, h, h2 => by
  rw [ofL] at h2 ⊢
  by_cases h3 : (appS s b limit).2 = 0
  ·rw [if_pos h3] at h2 ⊢
   obtain ⟨-, -, -, h4, h5⟩ := appS_ok h3
   have h6 := (limO_iff.1 hl).2
   rw [h5] at h2 ⊢
   obtain ⟨g1, g2⟩ := ofL_ok' hl (s := ⟨s.base, s.bytes ++ bytesB b⟩) (by simp only [List.length_append]; omega) h2
   exact ⟨g1, g2⟩
  ·rw [if_neg h3] at h2
   exact absurd h2 h3
theorem ofS_len {base limit : Int} {l : List Batch} (h : (ofS base l limit).2 = 0) : (ofS base l limit).1.base = base ∧ (ofS base l limit).1.bytes.length ≤ 4096 := by
 unfold ofS at h ⊢
 by_cases h1 : (newS base).2 = 0 ∧ limO limit = true
 ·rw [if_pos h1] at h ⊢
  have h2 : newS base = (⟨base, []⟩, 0) := by
   have := h1.1
   unfold newS at this ⊢
   by_cases hb : inO base = true
   ·rw [if_pos hb]
   ·rw [if_neg hb] at this; cases this
  rw [h2] at h ⊢
  exact ofL_ok' h1.2 (by simp) h
 ·rw [if_neg h1] at h
  cases h
set_option maxHeartbeats 1000000 in
theorem CReplace_ok (l : Lg) (n : Int) (bs : List Batch) (cs : List Value) (v : Value) (G : Nat → Option Obj) (hl : LE G l cs) (hb : smL l.segs) (hm : l.segs.length ≤ 1000) (hni : I64 n) (hbs : SlV G (BE G) 10 v bs) :
  FnD Tryz.prog 25 #[.agg cs.toArray, .int .i64 n, v] G (LgR (repL l n bs)) := by
 have hl0 := hl
 have hchk := ChkL_ok l cs G hl hb
 obtain ⟨A, c, rfl, hsl, hi, hj⟩ := hl
 have hsl0 := hsl
 obtain ⟨A0, c0, he, hc, hmx, hA⟩ := hsl
 cases he
 have hbs0 := hbs
 obtain ⟨B, d, rfl, hd, hmy, hB⟩ := hbs
 refine F25.fnD (by simp) (go_of ?_)
 unfold c25
 unfold cellL at hchk hl0 ⊢
 intros; refine gr 0 0 ?_; refine sJ c25r0.eq_1 ?_
 intros; refine gr 12 14 ?_; refine sJ c25r1.eq_1 ?_
 refine (hchk _ _).mono ?_; rintro _ _ ⟨rfl, rfl⟩; refine sI ?_
 intros; refine gr 14 15 ?_; refine sJ c25r2.eq_1 ?_
 intros; refine gc ?_; refine sI ?_
 refine gb (fun k1 => ?_) (fun k1 => ?_)
 ·have k1 := of_decide_eq_true k1
  intros; refine gr 16 18 ?_; refine sJ c25r3.eq_1 ?_
  intros; refine rV ?_; simp only [push_cast, Nat.reduceBEq]
  rw [repL, if_neg k1]
  exact noneL_r
 have k1 : chkL l = 0 := by simpa using k1
 obtain ⟨c1, c2, c3, c4⟩ := chkL_0 k1
 intros; refine gN ?_
 intros; try refine go_seq ?_
 refine go_cut (fun e h => (0 ≤ n ∧ n < (l.segs.length : Int) - 1) ∧ e 1 = .int .i64 n ∧ e 2 = .slice B bs.length d ∧ h = ⟨G, [.reg 6 [.int .i64 0, .int .i64 0, .slice none 0 0], .reg 3 [.int .i64 l.limit, .int .i64 l.start, .slice A l.segs.length c]], []⟩) ?_ ?_
 ·intros; refine gr 18 25 ?_; refine sJ c25r4.eq_1 ?_
  refine gd (fun k2 => ?_) (fun k2 => ?_)
  ·have k2 := of_decide_eq_true k2
   refine sI ?_
   intros; refine gc ?_; refine sI ?_
   intros; refine gr 26 27 ?_; refine sJ c25r5.eq_1 ?_
   intros; refine rV ?_; simp only [push_cast, Nat.reduceBEq]
   rw [repL, if_pos k1, if_neg (by omega)]
   exact noneL_r
  ·have k2 := of_decide_eq_false k2
   refine sI ?_
   refine (last_ok l A c _ (by omega) _ _).mono ?_; rintro _ _ ⟨rfl, rfl⟩; refine sI ?_
   intros; refine gc ?_; refine sI ?_
   refine gb (fun k3 => ?_) (fun k3 => ?_)
   ·have k3 := of_decide_eq_true k3
    intros; refine gr 26 27 ?_; refine sJ c25r5.eq_1 ?_
    intros; refine rV ?_; simp only [push_cast, Nat.reduceBEq]
    rw [repL, if_pos k1, if_neg (by omega)]
    exact noneL_r
   ·have k3 := of_decide_eq_false k3
    intros; refine gN ?_
    exact go_l ⟨by omega, eE, eE, rfl⟩
 rintro e h ⟨k2, e1, e2, rfl⟩
 refine go_keep [1, 2] ?_
 refine sJ2 @e1 @e2 ?_
 obtain ⟨k, rfl⟩ : ∃ k : Nat, n = (k : Int) := ⟨n.toNat, by omega⟩
 obtain ⟨s, hs⟩ : ∃ s, l.segs[k]? = some s := ⟨l.segs[k]'(by omega), List.getElem?_eq_getElem _⟩
 obtain ⟨t, ht⟩ : ∃ t, l.segs[k + 1]? = some t := ⟨l.segs[k + 1]'(by omega), List.getElem?_eq_getElem _⟩
 have n1 : nthS l k = s := by rw [nthS, List.getD_eq_getElem?_getD, hs]; rfl
 have n2 : nthS l (k + 1) = t := by rw [nthS, List.getD_eq_getElem?_getD, ht]; rfl
 have hrep : repL l (k : Int) bs = if (ofS s.base bs l.limit).2 = 0 then if t.base < endB (ofS s.base bs l.limit).1 then (noneL, 71) else (⟨l.limit, l.start, l.segs.set k (ofS s.base bs l.limit).1⟩, 0) else (noneL, (ofS s.base bs l.limit).2) := by
  rw [repL, if_pos k1, if_pos k2, Int.toNat_natCast, n1, n2]
 rw [hrep]
 clear hrep
 have hsi := sl_i hA s (List.mem_of_getElem? hs)
 have hof := Of_ok s.base l.limit bs _ G hbs0 hsi hi
 have hol := @ofS_len s.base l.limit bs
 generalize ofS s.base bs l.limit = q at *
 obtain ⟨s', er⟩ := q
 dsimp only at hol ⊢
 intros
 intros; try refine go_seq ?_
 refine go_cut (fun e h => ∃ (G' : Nat → Option Obj) (b9 : Nat) (A3 : Option Addr) (c3 : Nat), (Gle G G' ∧ SB G' (.slice A3 s'.bytes.length c3) s'.bytes) ∧ e 1 = .int .i64 (k : Int) ∧ e 9 = .pointer (some ⟨b9, 0, none⟩) ∧ e 10 = .int .i64 er ∧ h = ⟨G', [.blk b9 [.int .i64 s'.base, .slice A3 s'.bytes.length c3], .reg 6 [.int .i64 0, .int .i64 0, .slice none 0 0], .reg 3 [.int .i64 l.limit, .int .i64 l.start, .slice A l.segs.length c]], []⟩) ?_ ?_
 ·(intros; try refine go_st ?_); refine go_z _ (List.Sublist.refl _) (by decide) ?_; refine sJ c25r6.eq_1 ?_
  refine hA.y_lf (k := k) (u := .int .i64 s.base) hs rfl rfl (fun cs h => by obtain ⟨_, _, rfl, -⟩ := h; rfl) fun a ha => ?_
  refine sI ?_
  refine ⟨?_, ?_⟩
  ·refine (hof _ _).mono ?_
   rintro r h' ⟨G1, rfl, hg1, A3, c3, rfl, hs1⟩
   refine sI ?_
   refine ⟨grow_G hg1, ?_⟩
   intro b9 hb9
   refine ⟨grow_L hg1 (.cons _ (List.Sublist.refl _)), ?_⟩
   refine sI ?_
   refine stX_blk [] _ rfl (Nat.le_refl 2) ⟨rfl, rfl⟩ ?_
   refine sI ?_
   refine ⟨grow_L hg1 (.cons _ (List.Sublist.refl _)), ?_⟩
   refine sI ?_
   exact go_l ⟨G1, b9, A3, c3, ⟨hg1, hs1⟩, eE, eE, eE, rfl⟩
  ·intro b9 hb9
   refine ⟨grow_L (fun _ _ h => h) (.cons _ (List.Sublist.refl _)), ?_⟩
   refine (hof _ _).mono ?_
   rintro r h' ⟨G1, rfl, hg1, A3, c3, rfl, hs1⟩
   refine sI ?_
   refine ⟨grow_L hg1 (.cons _ (List.Sublist.refl _)), ?_⟩
   refine sI ?_
   refine stX_blk [] _ rfl (Nat.le_refl 2) ⟨rfl, rfl⟩ ?_
   refine sI ?_
   refine ⟨grow_L hg1 (.cons _ (List.Sublist.refl _)), ?_⟩
   refine sI ?_
   exact go_l ⟨G1, b9, A3, c3, ⟨hg1, hs1⟩, eE, eE, eE, rfl⟩
 rintro e h ⟨G1, b9, A3, c3, ⟨hg1, hs1⟩, e1, e9, e10, rfl⟩
 refine go_keep [1, 9, 10] ?_
 refine sJ3 @e1 @e9 @e10 ?_
 intros
 intros; try refine go_seq ?_
 refine go_gx gx_blk ?_
 rintro h' ⟨G2, rfl, hg2, f9⟩
 have hs1 := SB.le hs1 hg2
 have hg1 := hg1.trans hg2
 have hw1 : IntKind.i64.wrap ((k : Int) + 1) = ((k + 1 : Nat) : Int) := by rw [w64_id] <;> omega
 refine go_cut (fun e h => e 1 = .int .i64 (k : Int) ∧ e 9 = .pointer (some ⟨b9, 0, none⟩) ∧ e 10 = .int .i64 (if er = 0 then if t.base < endB s' then 71 else 0 else er) ∧ h = ⟨G2, [.reg 6 [.int .i64 0, .int .i64 0, .slice none 0 0], .reg 3 [.int .i64 l.limit, .int .i64 l.start, .slice A l.segs.length c]], []⟩) ?_ ?_
 ·(intros; try refine go_st ?_); refine go_x _ (List.Sublist.refl _) (by decide) ?_; refine sJ c25r7.eq_1 ?_
  refine gx (fun k3 => ?_) (fun k3 => ?_)
  ·have k3 : er = 0 := of_decide_eq_true k3
   obtain ⟨o1, o2⟩ := hol k3
   have hse : SE G2 s' [.int .i64 s'.base, .slice A3 s'.bytes.length c3] := ⟨A3, c3, rfl, hs1, by rw [o1]; exact hsi⟩
   have hend := End_ok s' _ G2 hse (by omega)
   have hA2 := hA.le hg1 (E' := SE G2) fun _ _ h => SE.le hg1 h
   refine sI ?_
   refine ⟨_, ⟨_, [.int .i64 s'.base, .slice A3 s'.bytes.length c3], rfl, rfl, rfl, fun j u hu => .g (f9 j u hu)⟩, ?_⟩
   refine sJ @hw1 ?_
   refine hA2.y_lf (k := k + 1) (u := .int .i64 t.base) ht rfl rfl (fun cs h => by obtain ⟨_, _, rfl, -⟩ := h; rfl) fun a ha => ?_
   refine sI ?_
   refine (hend _ _).mono ?_; rintro _ _ ⟨rfl, rfl⟩; refine sI ?_
   intros; refine gc ?_; refine sI ?_
   refine gb (fun k4 => ?_) (fun k4 => ?_)
   ·have k4 := of_decide_eq_true k4
    have hq : (if er = 0 then if t.base < endB s' then 71 else 0 else er : Int) = 71 := by rw [if_pos k3, if_pos k4]
    intros; refine gr 0 0 ?_; refine sJ c25r8.eq_1 ?_
    (intros; try refine go_st ?_)
    exact go_l ⟨eE, eE, (eJ @hq), rfl⟩
   ·have k4 := of_decide_eq_false k4
    have hq : (if er = 0 then if t.base < endB s' then 71 else 0 else er : Int) = er := by rw [if_pos k3, if_neg k4, k3]
    intros; refine gN ?_
    exact go_l ⟨eE, eE, (eJ @hq), rfl⟩
  ·have k3 : ¬ er = 0 := of_decide_eq_false k3
   have hq : (if er = 0 then if t.base < endB s' then 71 else 0 else er : Int) = er := by rw [if_neg k3]
   refine sI ?_
   intros; refine gc ?_; refine sI ?_
   intros; refine gN ?_
   exact go_l ⟨eE, eE, (eJ @hq), rfl⟩
 rintro e h ⟨e1, e9, e10, rfl⟩
 refine go_keep [1, 9, 10] ?_
 refine sJ3 @e1 @e9 @e10 ?_
 have hr : (if er = 0 then if t.base < endB s' then (noneL, 71) else (⟨l.limit, l.start, l.segs.set k s'⟩, 0) else (noneL, er)) = if (if er = 0 then if t.base < endB s' then 71 else 0 else er : Int) = 0 then ((⟨l.limit, l.start, l.segs.set k s'⟩ : Lg), (0 : Int)) else (noneL, if er = 0 then if t.base < endB s' then 71 else 0 else er) := by
  by_cases h1 : er = 0
  ·by_cases h2 : t.base < endB s'
   ·simp [h1, h2]
   ·simp [h1, h2]
  ·simp [h1]
 have hz : (if er = 0 then if t.base < endB s' then 71 else 0 else er : Int) = 0 → er = 0 := fun h => by
  by_cases h1 : er = 0
  ·exact h1
  ·rw [if_neg h1] at h; exact h
 rw [hr]
 clear hr
 generalize (if er = 0 then if t.base < endB s' then 71 else 0 else er : Int) = e2 at *
 intros
 intros; refine gr 54 55 ?_; refine sJ c25r9.eq_1 ?_
 intros; refine gc ?_; refine sI ?_
 refine gb (fun k3 => ?_) (fun k3 => ?_)
 ·have k3 := of_decide_eq_true k3
  intros; refine gr 56 58 ?_; refine sJ c25r10.eq_1 ?_
  intros; refine rV ?_; simp only [push_cast, Nat.reduceBEq]
  rw [if_neg k3]
  exact noneL_r
 have k3 : e2 = 0 := by simpa using k3
 obtain ⟨o1, o2⟩ := hol (hz k3)
 rw [if_pos k3]
 have hsl2 := SlSE.le hg1 hsl0
 have hcl := CloneS_ok l.segs _ G2 hsl2 (by omega)
 have hse : SE G2 s' [.int .i64 s'.base, .slice A3 s'.bytes.length c3] := ⟨A3, c3, rfl, hs1, by rw [o1]; exact hsi⟩
 intros; refine gN ?_
 intros; refine gr 59 61 ?_; refine sJ c25r11.eq_1 ?_
 refine (ownN_sl hcl _ _).mono ?_
 rintro r h' ⟨G3, L', rfl, hg3, A4, c4, ys, rfl, -, hys, rfl⟩
 have hnew := hys.set (k := k) (x := s') (cs := [.int .i64 s'.base, .slice A3 s'.bytes.length c3]) (by omega) hse rfl
 refine sI ?_
 intros; try refine go_seq ?_
 refine go_gx (gx_know (.head _) (by omega)) ?_
 rintro h' ⟨rfl, g, c0, hA3, -, -⟩
 cases hA3
 have hlk : (l.segs.set k s').length = l.segs.length := List.length_set
 intros; refine gr 61 65 ?_; refine sJ c25r12.eq_1 ?_
 refine ⟨_, ⟨_, [.int .i64 s'.base, .slice A3 s'.bytes.length c3], rfl, rfl, rfl, fun j u hu => .g (cellG_le hg3 (f9 j u hu))⟩, ?_⟩
 refine sI ?_
 refine ⟨by omega, _, rfl, ?_⟩
 rw [add_off, Nat.zero_add]
 refine stX_row [] [_, _] rfl (by have := hys.len; simp at this ⊢; omega) ⟨rfl, rfl⟩ ?_
 refine sI ?_
 intros; try refine go_seq ?_
 refine go_gx (gx_slv_at [] _ (by decide) hnew) ?_
 rintro h' ⟨G5, rfl, hg5, hv5⟩
 intros; refine gr 65 68 ?_; refine sJ c25r13.eq_1 ?_
 refine (with_ok _ _ _ _ _ _ _ _ _ _ _).mono ?_; rintro _ _ ⟨rfl, rfl⟩; refine sI ?_
 intros; refine rV ?_; simp only [push_cast, Nat.reduceBEq]
 exact ⟨_, rfl, some ⟨g, 0, none⟩, c4, by simp only [cellL, hlk], by dsimp only; rw [hlk]; exact hv5.le (.refl _) fun _ _ h => SE.le (hg3.trans hg5) h, hi, hj⟩
theorem F29 : Fun Tryz.prog 29 94 v29 c29 o29 := Fun.mkA Tryz.func29 Tryz.ntmps29
def recK : Option Sg → List Sg → Bool
 | _, [] => true
 | p, s :: ss => keeps p s && recK (some s) ss
theorem recS_snoc : ∀ (l : List Sg) (p : Option Sg) (s : Sg), recS p (l ++ [s]) = recS p l ++ (if (recK p l && keeps (endP p l) s) = true then [(fixS s).1] else []) ∧ recK p (l ++ [s]) = (recK p l && keeps (endP p l) s)
 | [], p, s => by simp [recS, recK, endP]
 | t :: l, p, s => by
  obtain ⟨h1, h2⟩ := recS_snoc l (some t) s
  rw [List.cons_append, recS, recS, recK, recK, endP]
  by_cases hk : keeps p t = true
  ·rw [if_pos hk, if_pos hk, h1, h2, hk]
   simp
  ·rw [if_neg hk, if_neg hk, h2]
   have : keeps p t = false := by simpa using hk
   simp [this]
theorem recS_at {l : List Sg} {k : Nat} {s : Sg} (h : l[k]? = some s) : recS none (l.take (k + 1)) = recS none (l.take k) ++ (if (recK none (l.take k) && keeps (endP none (l.take k)) s) = true then [(fixS s).1] else []) ∧ recK none (l.take (k + 1)) = (recK none (l.take k) && keeps (endP none (l.take k)) s) := by
 rw [take_snoc' h]
 exact recS_snoc _ _ _
theorem recS_le : ∀ (l : List Sg) (p : Option Sg), (recS p l).length ≤ l.length ∧ (recK p l = true ↔ (recS p l).length = l.length)
 | [], p => by simp [recS, recK]
 | s :: l, p => by
  obtain ⟨h1, h2⟩ := recS_le l (some s)
  rw [recS, recK]
  by_cases hk : keeps p s = true
  ·rw [if_pos hk, hk, Bool.true_and]
   simp only [List.length_cons]
   exact ⟨by omega, h2.trans (by omega)⟩
  ·have : keeps p s = false := by simpa using hk
   rw [if_neg hk, this]
   simp
theorem sizS_take (l : List Sg) (k : Nat) : sizS (l.take k) ≤ sizS l := by
 conv => rhs; rw [← List.take_append_drop k l, sizS_app]
 omega
theorem recS_siz : ∀ (l : List Sg) (p : Option Sg), sizS (recS p l) ≤ sizS l
 | [], p => Nat.le_refl _
 | s :: l, p => by
  rw [recS]
  split
  ·have h1 := recS_siz l (some s)
   have h2 : (fixS s).1.bytes.length ≤ s.bytes.length := by
    show (s.bytes.take _).length ≤ _
    rw [List.length_take]
    omega
   simp only [sizS]
   omega
  ·simp [sizS]
theorem sizS_sm {l : List Sg} (h : smL l) : sizS l ≤ 100000 * l.length := by
 induction l with
 | nil => simp [sizS]
 | cons s l ih =>
  have h1 := ih fun t ht => h t (.tail _ ht)
  have h2 := h s (.head _)
  simp only [sizS, List.length_cons]
  omega
set_option maxHeartbeats 1000000 in
theorem Recover_ok (l : Lg) (cs : List Value) (G : Nat → Option Obj) (hl : LE G l cs) (hb : smL l.segs) (hm : l.segs.length ≤ 1000) :
  FnD Tryz.prog 29 #[.agg cs.toArray] G (LgR (recL l)) := by
 obtain ⟨A, c, rfl, hsl, hi, hj⟩ := hl
 have hsl0 := hsl
 obtain ⟨A0, c0, he, hc, hmx, hA⟩ := hsl
 cases he
 refine F29.fnD (by simp) (go_of ?_)
 unfold c29 cellL
 intros; refine gr 0 0 ?_; refine sJ c29r0.eq_1 ?_
 intros
 intros; try refine go_seq ?_
 refine go_cut (fun e h => (mayO l.limit l.start = true ∧ headO l = true) ∧ e 3 = .int .i64 0 ∧ h = ⟨G, [.reg 2 [.int .i64 0, .int .i64 0, .slice none 0 0], .reg 1 [.int .i64 l.limit, .int .i64 l.start, .slice A l.segs.length c]], []⟩) ?_ ?_
 ·intros; refine gr 9 28 ?_; refine sJ c29r1.eq_1 ?_
  refine (may_ok _ _ _ _ _).mono ?_; rintro _ _ ⟨rfl, rfl⟩; refine sI ?_
  refine gd (fun k1 => ?_) (fun k1 => ?_)
  ·have k1 : mayO l.limit l.start = false := by simpa using k1
   refine sI ?_
   intros; refine gc ?_; refine sI ?_
   intros; refine gr 29 30 ?_; refine sJ c29r2.eq_1 ?_
   intros; refine rV ?_; simp only [push_cast, Nat.reduceBEq]
   rw [recL, if_neg (by rw [k1]; simp)]
   exact noneL_r
  have k1 : mayO l.limit l.start = true := by simpa using k1
  refine sI ?_
  refine gd (fun k2 => ?_) (fun k2 => ?_)
  ·have k2 : l.segs = [] := List.eq_nil_of_length_eq_zero (by have := of_decide_eq_true k2; omega)
   have hh : headO l = false := by unfold headO; rw [k2]
   refine sI ?_
   intros; refine gc ?_; refine sI ?_
   intros; refine gr 29 30 ?_; refine sJ c29r2.eq_1 ?_
   intros; refine rV ?_; simp only [push_cast, Nat.reduceBEq]
   rw [recL, if_neg (by rw [hh]; simp)]
   exact noneL_r
  have k2 : ¬ l.segs = [] := fun h => by rw [h] at k2; simp at k2
  obtain ⟨s0, ss, hss⟩ := List.exists_cons_of_ne_nil k2
  have hs0 : l.segs[0]? = some s0 := by rw [hss]; rfl
  have hh : headO l = inO s0.base := by unfold headO; rw [hss]
  refine sI ?_
  refine hA.x_lf (k := 0) (u := .int .i64 s0.base) hs0 rfl rfl (fun cs h => by obtain ⟨_, _, rfl, -⟩ := h; rfl) fun a ha => ?_
  refine sI ?_
  refine (offset_ok _ _ _ _).mono ?_; rintro _ _ ⟨rfl, rfl⟩; refine sI ?_
  intros; refine gc ?_; refine sI ?_
  refine gb (fun k3 => ?_) (fun k3 => ?_)
  ·have k3 : inO s0.base = false := by simpa using k3
   intros; refine gr 29 30 ?_; refine sJ c29r2.eq_1 ?_
   intros; refine rV ?_; simp only [push_cast, Nat.reduceBEq]
   rw [recL, if_neg (by rw [hh, k3]; simp)]
   exact noneL_r
  ·have k3 : inO s0.base = true := by simpa using k3
   intros; refine gN ?_
   exact go_l ⟨⟨k1, by rw [hh, k3]⟩, eE, rfl⟩
 rintro e h ⟨⟨k1, k2⟩, e3, rfl⟩
 refine go_keep [3] ?_
 refine sJ @e3 ?_
 have hrec : recL l = (⟨l.limit, l.start, recS none l.segs⟩, (sizS l.segs : Int) - (sizS (recS none l.segs) : Int)) := by rw [recL, if_pos ⟨k1, k2⟩]
 rw [hrec]
 have hsm := sizS_sm hb
 intros
 intros; refine gr 30 32 ?_; refine sJ c29r3.eq_1 ?_
 refine (with_ok _ _ _ _ _ _ _ _ _ _ _).mono ?_; rintro _ _ ⟨rfl, rfl⟩; refine sI ?_
 intros; refine gr 0 0 ?_; refine sJ c29r4.eq_1 ?_
 intros
 intros; try refine go_seq ?_
 refine go_ghost (ghost_nil none 55 2) ?_
 refine go_cut (fun e h => ∃ (G' : Nat → Option Obj) (A2 : Option Addr) (c2 : Nat) (zc : List Value), (Gle G G' ∧ Cells (SE G') 2 (recS none l.segs) zc) ∧ e 3 = .int .i64 ((sizS l.segs : Int) - (sizS (recS none l.segs) : Int)) ∧ h = ⟨G', [.row (.slice A2 (recS none l.segs).length c2) 55 2 (recS none l.segs).length zc, .reg 2 [.int .i64 l.limit, .int .i64 l.start, .slice A2 (recS none l.segs).length c2], .reg 1 [.int .i64 l.limit, .int .i64 l.start, .slice A l.segs.length c]], []⟩) ?_ ?_
 ·(intros; try refine go_st ?_)
  refine go_loop (fun e h => ∃ (k : Nat) (G' : Nat → Option Obj) (A2 : Option Addr) (c2 : Nat) (zc : List Value), (k ≤ l.segs.length ∧ Gle G G' ∧ Cells (SE G') 2 (recS none (l.segs.take k)) zc) ∧ e 35 = .int .i64 k ∧ e 34 = .int .i64 l.segs.length ∧ e 33 = .slice A l.segs.length c ∧ e 3 = .int .i64 ((sizS (l.segs.take k) : Int) - (sizS (recS none (l.segs.take k)) : Int)) ∧ h = ⟨G', [.row (.slice A2 (recS none (l.segs.take k)).length c2) 55 2 (recS none (l.segs.take k)).length zc, .reg 2 [.int .i64 l.limit, .int .i64 l.start, .slice A2 (recS none (l.segs.take k)).length c2], .reg 1 [.int .i64 l.limit, .int .i64 l.start, .slice A l.segs.length c]], []⟩) (fun e h => l.segs.length - iv (e 35)) ?_ ?_
  ·exact ⟨0, G, none, 0, [], ⟨Nat.zero_le _, .refl _, .nil⟩, eE, eE, eE, by refine sI ?_; rfl, rfl⟩
  rintro e h ⟨k, G', A2, c2, zc, ⟨hk, hg', hzc⟩, e35, e34, e33, e3, rfl⟩
  refine go_keep [3, 33, 34, 35] ?_
  refine sJ4 @e3 @e33 @e34 @e35 ?_
  intros; refine gr 0 0 ?_; refine sJ c29r5.eq_1 ?_
  intros; refine gc ?_; refine sI ?_
  refine gb (fun ht => ?_) (fun ht => ?_)
  ·have ht : k < l.segs.length := by have := of_decide_eq_true ht; omega
   have hw := inc_i k c (by omega) hmx
   obtain ⟨s, hs⟩ : ∃ s, l.segs[k]? = some s := ⟨l.segs[k], List.getElem?_eq_getElem (by omega)⟩
   have hbs := hb s (List.mem_of_getElem? hs)
   obtain ⟨hr1, hr2⟩ := recS_at hs
   obtain ⟨hle, hiff⟩ := recS_le (l.segs.take k) none
   have hlk : (l.segs.take k).length = k := by rw [List.length_take]; omega
   rw [hlk] at hle hiff
   have hz1 : sizS (l.segs.take (k + 1)) = sizS (l.segs.take k) + s.bytes.length := by rw [take_snoc' hs, sizS_app]; simp [sizS]
   have hz2 := sizS_take l.segs (k + 1)
   have hz3 := recS_siz (l.segs.take k) none
   have hA' := hA.le hg' (E' := SE G') fun _ _ h => SE.le hg' h
   have hw2 : IntKind.i64.wrap ((sizS (l.segs.take k) : Int) - (sizS (recS none (l.segs.take k)) : Int) + (s.bytes.length : Int)) = (sizS (l.segs.take k) : Int) - (sizS (recS none (l.segs.take k)) : Int) + (s.bytes.length : Int) := by rw [w64_id] <;> omega
   intros; refine gN ?_
   intros; refine gr 37 40 ?_; refine sJ c29r6.eq_1 ?_
   refine hA'.x_ld hs rfl rfl ?_
   rintro a1 ha1 cs hse
   have hse0 := hse
   have hfix := ownSE_d (Fix_ok s cs G' hse (by omega))
   obtain ⟨B, d, rfl, hsb, hsi⟩ := hse
   unfold cellS at hfix hse0 ⊢
   refine sI ?_
   intros; refine gr 40 45 ?_; refine sJ2 c29r7.eq_1 @hw2 ?_
   intros
   intros; try refine go_seq ?_
   refine go_cut (fun e h => (recK none (l.segs.take k) && keeps (endP none (l.segs.take k)) s) = true ∧ e 35 = .int .i64 k ∧ e 34 = .int .i64 l.segs.length ∧ e 33 = .slice A l.segs.length c ∧ e 3 = .int .i64 ((sizS (l.segs.take k) : Int) - (sizS (recS none (l.segs.take k)) : Int) + (s.bytes.length : Int)) ∧ h = ⟨G', [.reg 5 [.int .i64 s.base, .slice B s.bytes.length d], .row (.slice A2 (recS none (l.segs.take k)).length c2) 55 2 (recS none (l.segs.take k)).length zc, .reg 2 [.int .i64 l.limit, .int .i64 l.start, .slice A2 (recS none (l.segs.take k)).length c2], .reg 1 [.int .i64 l.limit, .int .i64 l.start, .slice A l.segs.length c]], []⟩) ?_ ?_
   ·have hd50 : decide (((recS none (l.segs.take k)).length : Int) < (k : Int)) = !recK none (l.segs.take k) := by
     by_cases h : recK none (l.segs.take k) = true
     ·rw [h]; exact decide_eq_false (by have := hiff.1 h; omega)
     ·have h2 : recK none (l.segs.take k) = false := by simpa using h
      rw [h2]
      exact decide_eq_true (by have : ¬ (recS none (l.segs.take k)).length = k := fun hh => h (hiff.2 hh); omega)
    (intros; try refine go_st ?_); refine go_x _ (List.Sublist.refl _) (by decide) ?_; refine sJ2 c29r8.eq_1 @hd50 ?_
    refine gx (fun k3 => ?_) (fun k3 => ?_)
    ·have k3 : recK none (l.segs.take k) = false := by simpa using k3
     have hr1' : recS none (l.segs.take (k + 1)) = recS none (l.segs.take k) := by rw [hr1, k3]; simp
     have hq : (sizS (l.segs.take k) : Int) - (sizS (recS none (l.segs.take k)) : Int) + (s.bytes.length : Int) = (sizS (l.segs.take (k + 1)) : Int) - (sizS (recS none (l.segs.take (k + 1))) : Int) := by rw [hr1', hz1]; push_cast; omega
     refine sI ?_
     intros; refine gc ?_; refine sI ?_
     rw [← hr1'] at hzc hq ⊢
     refine go_exit ?_
     refine sI ?_
     refine go_ghost (ghost_sub (.cons _ (List.Sublist.refl _))) ?_
     intros; refine gr 91 92 ?_; refine sJ2 c29r12.eq_1 @hw ?_
     (intros; try refine go_st ?_)
     refine go_l ⟨⟨k + 1, G', A2, c2, zc, ⟨by omega, hg', hzc⟩, eE, eE, eE, (eJ @hq), rfl⟩, ?_⟩
     refine sI ?_
     omega
    have k3 : recK none (l.segs.take k) = true := by simpa using k3
    rw [k3, Bool.true_and] at hr1 ⊢
    refine sI ?_
    refine gx (fun k4 => ?_) (fun k4 => ?_)
    ·have k4 : 0 < k := by have := of_decide_eq_true k4; omega
     have hw1 : IntKind.i64.wrap ((k : Int) - 1) = (k : Int) - 1 := by unfold maxLen at hmx; rw [w64_id] <;> omega
     obtain ⟨p, hp⟩ : ∃ p, l.segs[k - 1]? = some p := ⟨l.segs[k - 1], List.getElem?_eq_getElem (by omega)⟩
     have hbp := hb p (List.mem_of_getElem? hp)
     rw [endP_pred k4 hp] at hr1 ⊢
     refine sJ @hw1 ?_
     refine hA'.y_ld hp (by omega) rfl ?_
     rintro a2 ha2 cs2 hpe
     have hwh := whole_ok p cs2 G' hpe (by omega)
     obtain ⟨B2, d2, rfl, -⟩ := hpe
     unfold cellS at hwh ⊢
     refine sI ?_
     refine (hwh _ _).mono ?_; rintro _ _ ⟨rfl, rfl⟩; refine sI ?_
     refine gx (fun k5 => ?_) (fun k5 => ?_)
     ·have k5 : wholeB p = false := by simpa using k5
      have hkp : keeps (some p) s = false := by simp [keeps, k5]
      have hr1' : recS none (l.segs.take (k + 1)) = recS none (l.segs.take k) := by rw [hr1, hkp]; simp
      have hq : (sizS (l.segs.take k) : Int) - (sizS (recS none (l.segs.take k)) : Int) + (s.bytes.length : Int) = (sizS (l.segs.take (k + 1)) : Int) - (sizS (recS none (l.segs.take (k + 1))) : Int) := by rw [hr1', hz1]; push_cast; omega
      refine sI ?_
      intros; refine gc ?_; refine sI ?_
      rw [← hr1'] at hzc hq ⊢
      refine go_exit ?_
      refine sI ?_
      refine go_ghost (ghost_sub (.cons _ (List.Sublist.refl _))) ?_
      intros; refine gr 91 92 ?_; refine sJ2 c29r12.eq_1 @hw ?_
      (intros; try refine go_st ?_)
      refine go_l ⟨⟨k + 1, G', A2, c2, zc, ⟨by omega, hg', hzc⟩, eE, eE, eE, (eJ @hq), rfl⟩, ?_⟩
      refine sI ?_
      omega
     have k5 : wholeB p = true := by simpa using k5
     have hkp : keeps (some p) s = folB p s := by simp [keeps, k5]
     refine sJ @hw1 ?_
     refine hA'.y_ld hp (by omega) rfl ?_
     rintro a3 ha3 cs3 hpe3
     have hfo := follows_ok p s cs3 _ G' hpe3 hse0 (by omega)
     obtain ⟨B3, d3, rfl, -⟩ := hpe3
     unfold cellS at hfo ⊢
     refine sI ?_
     refine (hfo _ _).mono ?_; rintro _ _ ⟨rfl, rfl⟩; refine sI ?_
     intros; refine gc ?_; refine sI ?_
     refine gb (fun k6 => ?_) (fun k6 => ?_)
     ·have k6 : folB p s = false := by simpa using k6
      rw [k6] at hkp
      have hr1' : recS none (l.segs.take (k + 1)) = recS none (l.segs.take k) := by rw [hr1, hkp]; simp
      have hq : (sizS (l.segs.take k) : Int) - (sizS (recS none (l.segs.take k)) : Int) + (s.bytes.length : Int) = (sizS (l.segs.take (k + 1)) : Int) - (sizS (recS none (l.segs.take (k + 1))) : Int) := by rw [hr1', hz1]; push_cast; omega
      rw [← hr1'] at hzc hq ⊢
      refine go_exit ?_
      refine sI ?_
      refine go_ghost (ghost_sub (.cons _ (List.Sublist.refl _))) ?_
      intros; refine gr 91 92 ?_; refine sJ2 c29r12.eq_1 @hw ?_
      (intros; try refine go_st ?_)
      refine go_l ⟨⟨k + 1, G', A2, c2, zc, ⟨by omega, hg', hzc⟩, eE, eE, eE, (eJ @hq), rfl⟩, ?_⟩
      refine sI ?_
      omega
     ·have k6 : folB p s = true := by simpa using k6
      rw [k6] at hkp
      intros; refine gN ?_
      exact go_l ⟨hkp, eE, eE, eE, eE, rfl⟩
    ·have k4 : k = 0 := by have := of_decide_eq_false k4; omega
     have hkp : keeps (endP none (l.segs.take k)) s = true := by rw [k4]; rfl
     refine sI ?_
     intros; refine gc ?_; refine sI ?_
     intros; refine gN ?_
     exact go_l ⟨hkp, eE, eE, eE, eE, rfl⟩
   rintro e h ⟨hkeep, e35, e34, e33, e3, rfl⟩
   refine go_keep [3, 33, 34, 35] ?_
   refine sJ4 @e3 @e33 @e34 @e35 ?_
   rw [hkeep, if_pos rfl] at hr1
   have hgl : (fixS s).1.bytes.length ≤ s.bytes.length := by
    show (s.bytes.take _).length ≤ _
    rw [List.length_take]
    omega
   have hw3 : IntKind.i64.wrap ((sizS (l.segs.take k) : Int) - (sizS (recS none (l.segs.take k)) : Int) + (s.bytes.length : Int) - ((fixS s).1.bytes.length : Int)) = (sizS (l.segs.take (k + 1)) : Int) - (sizS (recS none (l.segs.take (k + 1))) : Int) := by
    rw [hr1, sizS_app, hz1]
    simp only [sizS]
    rw [w64_id] <;> omega
   generalize (sizS (l.segs.take k) : Int) - (sizS (recS none (l.segs.take k)) : Int) + (s.bytes.length : Int) = D0 at *
   have hfb : (fixS s).1.base = s.base := rfl
   generalize fixS s = q at *
   obtain ⟨s', er⟩ := q
   dsimp only at hr1 hgl hw3 hfb
   intros; refine gr 75 80 ?_; refine sJ c29r9.eq_1 ?_
   refine (hfix _ _).mono ?_
   rintro r h' ⟨G2, rfl, hg2, A3, c3, rfl, hs3⟩
   refine sI ?_
   intros; refine gr 80 85 ?_; refine sJ2 c29r10.eq_1 @hw3 ?_
   have hzc2 : Cells (SE G2) 2 (recS none (l.segs.take k)) zc := cells_imp hzc fun _ _ h => SE.le hg2 h
   have hse3 : SE G2 s' [.int .i64 s'.base, .slice A3 s'.bytes.length c3] := ⟨A3, c3, rfl, hs3, by rw [hfb]; exact hsi⟩
   intros; refine gr 86 90 ?_; refine sJ c29r11.eq_1 ?_
   intro bk hbk
   refine app1 (L1 := [_, _]) (L2 := [_, _]) (E := SE G2) (x := s') rfl hse3 rfl (by simp [Value.oneCell']) hzc2 (by omega) (by omega) fun A' c' zc' hzc' => ?_
   rw [← hr1] at hzc' ⊢
   refine sI ?_
   intros
   refine go_ghost (ghost_sub (.cons _ (.cons _ (.cons _ (List.Sublist.refl _))))) ?_
   intros; refine gr 91 92 ?_; refine sJ2 c29r12.eq_1 @hw ?_
   (intros; try refine go_st ?_)
   refine go_l ⟨⟨k + 1, G2, A', c', zc', ⟨by omega, hg'.trans hg2, hzc'⟩, eE, eE, eE, eE, rfl⟩, ?_⟩
   refine sI ?_
   omega
  ·have ht : k = l.segs.length := by have := of_decide_eq_false ht; omega
   subst ht
   rw [List.take_length] at hzc e3 ⊢
   refine go_exit ?_
   refine sI ?_
   intros; refine gN ?_
   exact go_l ⟨G', A2, c2, zc, ⟨hg', hzc⟩, eE, rfl⟩
 rintro e h ⟨G1, A2, c2, zc, ⟨hg1, hzc⟩, e3, rfl⟩
 refine go_keep [3] ?_
 refine sJ @e3 ?_
 intros
 refine go_gx (gx_slv_at [] _ (by decide) hzc) ?_
 rintro h' ⟨G2, rfl, hg2, hv2⟩
 intros; refine gr 92 94 ?_; refine sJ c29r13.eq_1 ?_
 intros; refine rV ?_; simp only [push_cast, Nat.reduceBEq]
 exact ⟨_, rfl, A2, c2, rfl, hv2.le (.refl _) fun _ _ h => SE.le hg2 h, hi, hj⟩
theorem F31 : Fun Tryz.prog 31 14 v31 c31 o31 := Fun.mkA Tryz.func31 Tryz.ntmps31
theorem F32 : Fun Tryz.prog 32 27 v32 c32 o32 := Fun.mkA Tryz.func32 Tryz.ntmps32
theorem F17 : Fun Tryz.prog 17 46 v17 c17 o17 := Fun.mkA Tryz.func17 Tryz.ntmps17
theorem F7 : Fun Tryz.prog 7 11 v7 c7 o7 := Fun.mkA Tryz.func7 Tryz.ntmps7
def thB (n : Int) : Batch := ⟨n, n + 2, n, 0, -1, 0, 0, false, 0, [⟨n, ⟨#[]⟩, ⟨#[118]⟩, false, 0⟩, ⟨n + 2, ⟨#[]⟩, ⟨#[119]⟩, false, 0⟩]⟩
theorem three_ok (n : Int) (G : Nat → Option Obj) (h0 : 0 ≤ n) (h1 : n ≤ 1000) : FnD Tryz.prog 31 #[.int .i64 n] G (fun G' r => ∃ B d, r = .agg (cellH (thB n) (.slice B 2 d)).toArray ∧ BE G' (thB n) (cellH (thB n) (.slice B 2 d))) := by
 have hw : IntKind.i64.wrap (n + 2) = n + 2 := by rw [w64_id] <;> omega
 refine F31.fnD (by simp) (go_of ?_)
 unfold c31
 intros; refine gr 0 0 ?_; refine sJ c31r0.eq_1 ?_
 intros; refine gr 3 14 ?_; refine sJ2 c31r1.eq_1 @hw ?_
 intro b hb
 refine sI ?_
 intros; try refine go_seq ?_
 have z0 : (ByteArray.mk #[]).size ≤ maxLen := by decide
 have z1 : (ByteArray.mk #[118]).size ≤ maxLen := by decide
 have z2 : (ByteArray.mk #[119]).size ≤ maxLen := by decide
 have hra : Cells RR 5 (thB n).recs [.int .i64 n, .string ⟨#[]⟩, .string ⟨#[118]⟩, .bool false, .int .i64 0, .int .i64 (n + 2), .string ⟨#[]⟩, .string ⟨#[119]⟩, .bool false, .int .i64 0] :=
  .cons (cs := [_, _, _, _, _]) ⟨rfl, ⟨by dsimp only; unfold I64; omega, i64_0⟩, z0, z1⟩ rfl (.one ⟨rfl, ⟨by dsimp only; unfold I64; omega, i64_0⟩, z0, z2⟩ rfl)
 refine go_gx (gx_slv_at [] _ (by decide) hra) ?_
 rintro h' ⟨G2, rfl, hg2, A2, c2, hA2, hc2, hm2, hs2⟩
 cases hA2
 intros; refine rV ?_; simp only [push_cast, Nat.reduceBEq]
 exact ⟨some ⟨b, 0, none⟩, 2, rfl, some ⟨b, 0, none⟩, 2, rfl, ⟨hc2, hm2, hs2⟩, by unfold I64 thB; dsimp only; omega, by unfold I64 thB; dsimp only; omega, by unfold I64 thB; dsimp only; omega, i64_0, (by decide : I64 (-1)), i64_0, i64_0, i64_0⟩
theorem x_lg {α : Type} {P : Program} {h : H} {d sz : Nat} {l : List SI} {G : Nat → Option Obj} {E : α → List Value → Prop} {A : Option Addr} {xs : List α} {K : Env → H → Prop} {e : Addr → Env} {j : Int} {k o : Nat} {x : α} {Pu : Value → Prop} (hA : SlA G E sz A xs) (hx : xs[k]? = some x) (hj : j = k) (hG : h.G = G) (hu : ∀ cs, E x cs → ∃ u, cs[o]? = some u ∧ Pu u)
  (hk : ∀ a, A = some a → ∀ u, Pu u → kR P l d (e a) K u h) : (0 ≤ j ∧ j < xs.length) ∧ ∃ a, A = some a ∧ ldX P (.pointer (some ((a.add (j.toNat * sz)).add o))) none d l (e a) h K := by
 obtain ⟨G', L, D⟩ := h
 dsimp only at hG
 subst hG
 obtain ⟨a, cs, ha, hE, _, _, hld⟩ := hA.at_ hx L D
 obtain ⟨u, hu, hp⟩ := hu cs hE
 have := SlA.lt hx
 subst hj
 exact ⟨by omega, a, ha, _, by simpa using hld o u hu, hk a ha u hp⟩
theorem LFew_ok (l : Lg) (cs : List Value) (G : Nat → Option Obj) (hl : LE G l cs) : FnE Tryz.prog 32 #[.agg cs.toArray] G (fun r => ∃ b, r = .bool b ∧ (b = true → l.segs.length ≤ 12 ∧ ∀ s ∈ l.segs, s.bytes.length ≤ 5000)) := by
 obtain ⟨A, c, rfl, ⟨A0, c0, he, hc, hm, hA⟩, hi, hj⟩ := hl
 cases he
 refine F32.fnE (by simp) (go_of ?_)
 unfold c32 cellL
 have hd : decide ((l.segs.length : Int) ≤ 12) = decide (l.segs.length ≤ 12) := decide_eq_decide.2 (by omega)
 have hrest : ∀ (fr : List Td) (e : Env), (l.segs.length ≤ 300 → ∀ s ∈ l.segs, s.bytes.length ≤ 5000) → go none Tryz.prog 27 v32.1 v32.2 (retQ o32 fun r _ => ∃ b, r = .bool b ∧ (b = true → l.segs.length ≤ 12 ∧ ∀ s ∈ l.segs, s.bytes.length ≤ 5000)) (Td.s ((SC.reg false c32r6).seq .ret) :: fr) e ⟨G, [.reg 1 [.int .i64 l.limit, .int .i64 l.start, .slice A l.segs.length c]], []⟩ := fun fr e hall => by
  intros; refine gr 24 27 ?_; refine sJ2 c32r6.eq_1 @hd ?_
  intros; refine rV ?_; simp only [push_cast, Nat.reduceBEq]
  exact ⟨_, rfl, fun h => by have h := of_decide_eq_true h; exact ⟨h, hall (by omega)⟩⟩
 intros; refine gr 0 0 ?_; refine sJ c32r0.eq_1 ?_
 intros; refine gr 0 0 ?_; refine sJ c32r1.eq_1 ?_
 (intros; try refine go_st ?_)
 refine go_loop (fun e h => ∃ k : Nat, (k ≤ l.segs.length ∧ ∀ s ∈ l.segs.take k, s.bytes.length ≤ 5000) ∧ e 3 = .int .i64 k ∧ h = ⟨G, [.reg 1 [.int .i64 l.limit, .int .i64 l.start, .slice A l.segs.length c]], []⟩) (fun e h => l.segs.length - iv (e 3)) ?_ ?_
 ·exact ⟨0, ⟨Nat.zero_le _, by simp⟩, eE, rfl⟩
 rintro e h ⟨k, ⟨hk, hall⟩, e3, rfl⟩
 refine go_keep [3] ?_
 refine sJ @e3 ?_
 intros; refine gr 4 12 ?_; refine sJ c32r2.eq_1 ?_
 refine gd (fun k1 => ?_) (fun k1 => ?_)
 ·have k1 : k < l.segs.length := by have := of_decide_eq_true k1; omega
  refine sI ?_
  intros; refine gc ?_; refine sI ?_
  refine gb (fun k2 => ?_) (fun k2 => ?_)
  ·have hw := inc_i k c (by omega) hm
   obtain ⟨s, hs⟩ : ∃ s, l.segs[k]? = some s := ⟨l.segs[k], List.getElem?_eq_getElem (by omega)⟩
   intros; refine gN ?_
   intros; refine gr 16 22 ?_; refine sJ c32r3.eq_1 ?_
   refine x_lg (k := k) (Pu := fun u => ∃ B d, u = .slice B s.bytes.length d) hA hs rfl rfl (fun cs h => by obtain ⟨B, d, rfl, -⟩ := h; exact ⟨_, rfl, B, d, rfl⟩) ?_
   rintro a ha u ⟨B, d, rfl⟩
   refine sI ?_
   intros; refine gc ?_; refine sI ?_
   refine gb (fun k3 => ?_) (fun k3 => ?_)
   ·intros; refine gr 0 0 ?_; refine sJ c32r4.eq_1 ?_
    intros; refine rV ?_; simp only [push_cast, Nat.reduceBEq]
    exact ⟨false, rfl, fun h => by cases h⟩
   ·have k3 := of_decide_eq_false k3
    intros; refine gN ?_
    intros; refine gr 13 15 ?_; refine sJ2 c32r5.eq_1 @hw ?_
    (intros; try refine go_st ?_)
    refine go_l ⟨⟨k + 1, ⟨by omega, fun z hz => ?_⟩, eE, rfl⟩, ?_⟩
    ·rw [take_snoc' hs] at hz
     rcases List.mem_append.1 hz with h | h
     ·exact hall z h
     ·simp at h; subst h; omega
    ·refine sI ?_; omega
  ·have k2 := of_decide_eq_false k2
   refine go_exit ?_
   refine sI ?_
   intros; refine gN ?_
   exact hrest _ _ fun h => by omega
 ·have k1 : k = l.segs.length := by have := of_decide_eq_false k1; omega
  subst k1
  rw [List.take_length] at hall
  refine sI ?_
  intros; refine gc ?_; refine sI ?_
  refine go_exit ?_
  refine sI ?_
  intros; refine gN ?_
  exact hrest _ _ fun _ => hall
theorem LSame_ok (a b : Lg) (cs ds : List Value) (G : Nat → Option Obj) (ha : LE G a cs) (hb : LE G b ds) : FnS Tryz.prog 17 #[.agg cs.toArray, .agg ds.toArray] G (.bool (decide (a = b))) := by
 obtain ⟨A, c, rfl, ⟨A0, c0, he, hc, hm, hA⟩, hi, hj⟩ := ha
 cases he
 obtain ⟨B, d, rfl, ⟨B0, d0, he, hd, hn, hB⟩, hi2, hj2⟩ := hb
 cases he
 have hde : a = b ↔ a.limit = b.limit ∧ a.start = b.start ∧ a.segs = b.segs := by
  constructor
  ·rintro rfl; exact ⟨rfl, rfl, rfl⟩
  ·rintro ⟨h1, h2, h3⟩; cases a; cases b; simp_all
 refine F17.fnS (by simp) (go_of ?_)
 unfold c17 cellL
 intros; refine gr 0 0 ?_; refine sJ c17r0.eq_1 ?_
 intros; refine gr 7 26 ?_; refine sJ c17r1.eq_1 ?_
 refine gd (fun k1 => ?_) (fun k1 => ?_)
 ·have k1 := of_decide_eq_true k1
  refine sI ?_
  intros; refine gc ?_; refine sI ?_
  intros; refine gr 0 0 ?_; refine sJ c17r2.eq_1 ?_
  intros; refine rV ?_; simp only [push_cast, Nat.reduceBEq]
  rw [decide_eq_false fun h => k1 (hde.1 h).1]
 have k1 : a.limit = b.limit := by simpa using k1
 refine sI ?_
 refine gd (fun k2 => ?_) (fun k2 => ?_)
 ·have k2 := of_decide_eq_true k2
  refine sI ?_
  intros; refine gc ?_; refine sI ?_
  intros; refine gr 0 0 ?_; refine sJ c17r2.eq_1 ?_
  intros; refine rV ?_; simp only [push_cast, Nat.reduceBEq]
  rw [decide_eq_false fun h => k2 (hde.1 h).2.1]
 have k2 : a.start = b.start := by simpa using k2
 refine sI ?_
 intros; refine gc ?_; refine sI ?_
 refine gb (fun k3 => ?_) (fun k3 => ?_)
 ·have k3 := of_decide_eq_true k3
  intros; refine gr 0 0 ?_; refine sJ c17r2.eq_1 ?_
  intros; refine rV ?_; simp only [push_cast, Nat.reduceBEq]
  rw [decide_eq_false fun h => k3 (by rw [(hde.1 h).2.2])]
 have k3 : a.segs.length = b.segs.length := by have := of_decide_eq_false k3; omega
 intros; refine gN ?_
 intros; refine gr 0 0 ?_; refine sJ c17r3.eq_1 ?_
 (intros; try refine go_st ?_)
 refine go_loop (fun e h => ∃ k : Nat, (k ≤ a.segs.length ∧ a.segs.take k = b.segs.take k) ∧ e 5 = .int .i64 k ∧ h = ⟨G, [.reg 3 [.int .i64 b.limit, .int .i64 b.start, .slice B b.segs.length d], .reg 2 [.int .i64 a.limit, .int .i64 a.start, .slice A a.segs.length c]], []⟩) (fun e h => a.segs.length - iv (e 5)) ?_ ?_
 ·exact ⟨0, ⟨Nat.zero_le _, rfl⟩, eE, rfl⟩
 rintro e h ⟨k, ⟨hk, htk⟩, e5, rfl⟩
 refine go_keep [5] ?_
 refine sJ @e5 ?_
 intros; refine gr 27 31 ?_; refine sJ c17r4.eq_1 ?_
 intros; refine gc ?_; refine sI ?_
 refine gb (fun ht => ?_) (fun ht => ?_)
 ·have ht : k < a.segs.length := by have := of_decide_eq_true ht; omega
  have hw := inc_i k c (by omega) hm
  obtain ⟨x, hx⟩ : ∃ x, a.segs[k]? = some x := ⟨a.segs[k], List.getElem?_eq_getElem (by omega)⟩
  obtain ⟨y, hy⟩ : ∃ y, b.segs[k]? = some y := ⟨b.segs[k], List.getElem?_eq_getElem (by omega)⟩
  intros; refine gN ?_
  (intros; try refine go_st ?_); refine go_x _ (List.Sublist.refl _) (by decide) ?_; refine sJ c17r5.eq_1 ?_
  refine hA.y_ld hx rfl rfl ?_
  rintro a1 ha1 cs hbx
  refine sI ?_
  refine hB.y_ld hy rfl rfl ?_
  rintro a2 ha2 ds hby
  have hsm := SSame_ok x y cs ds G hbx hby
  obtain ⟨B1, d1, rfl, -⟩ := hbx
  obtain ⟨B2, d2, rfl, -⟩ := hby
  unfold cellS at hsm ⊢
  refine sI ?_
  refine (hsm _ _).mono ?_; rintro _ _ ⟨rfl, rfl⟩; refine sI ?_
  intros; refine gc ?_; refine sI ?_
  refine gb (fun h3 => ?_) (fun h3 => ?_)
  ·have h3 : ¬ x = y := by simpa using h3
   intros; refine gr 0 0 ?_; refine sJ c17r6.eq_1 ?_
   intros; refine rV ?_; simp only [push_cast, Nat.reduceBEq]
   rw [decide_eq_false fun h => h3 (by have := (hde.1 h).2.2; rw [this, hy] at hx; cases hx; rfl)]
  ·have h3 : x = y := by simpa using h3
   intros; refine gN ?_
   intros; refine gr 32 34 ?_; refine sJ2 c17r7.eq_1 @hw ?_
   (intros; try refine go_st ?_)
   refine go_l ⟨⟨k + 1, ⟨by omega, take_succ_eq htk hx hy h3⟩, eE, rfl⟩, ?_⟩
   refine sI ?_
   omega
 ·have ht : k = a.segs.length := by have := of_decide_eq_false ht; omega
  refine go_exit ?_
  refine sI ?_
  intros; refine gr 0 0 ?_; refine sJ c17r8.eq_1 ?_
  intros; refine rV ?_; simp only [push_cast, Nat.reduceBEq]
  rw [decide_eq_true (hde.2 ⟨k1, k2, same_take ht k3 htk⟩)]
theorem few_ok (l : Lg) (bs : List Batch) (cs : List Value) (v : Value) (G : Nat → Option Obj) (hl : LE G l cs) (hbs : SlV G (BE G) 10 v bs) : FnE Tryz.prog 7 #[.agg cs.toArray, v] G (fun r => ∃ b, r = .bool b ∧ (b = true → (l.segs.length ≤ 12 ∧ ∀ s ∈ l.segs, s.bytes.length ≤ 5000) ∧ (bs.length : Int) ≤ 40)) := by
 have hf := LFew_ok l cs G hl
 have hg := FewAll_ok bs 40 v G hbs
 obtain ⟨A, c, rfl, -⟩ := hl
 obtain ⟨B, d, rfl, -⟩ := hbs
 refine F7.fnE (by simp) (go_of ?_)
 unfold c7
 unfold cellL at hf ⊢
 intros; refine gr 0 0 ?_; refine sJ c7r0.eq_1 ?_
 intros; refine gr 5 11 ?_; refine sJ c7r1.eq_1 ?_
 refine (hf _ _).mono ?_
 rintro r h' ⟨⟨b1, rfl, hb1⟩, rfl⟩
 refine sI ?_
 refine gd (fun k1 => ?_) (fun k1 => ?_)
 ·subst k1
  refine sI ?_
  refine (hg _ _).mono ?_
  rintro r h' ⟨⟨b2, rfl, hb2⟩, rfl⟩
  refine sI ?_
  intros; refine rV ?_; simp only [push_cast, Nat.reduceBEq]
  exact ⟨_, rfl, fun h => ⟨hb1 rfl, (hb2 h).1⟩⟩
 ·subst k1
  refine sI ?_
  intros; refine rV ?_; simp only [push_cast, Nat.reduceBEq]
  exact ⟨false, rfl, fun h => by cases h⟩
theorem sm_of {l : Lg} (h : chkL l = 0) : smL l.segs := fun s hs => by
 obtain ⟨h1, h2, h3, h4⟩ := chkL_0 h
 have := (okS_mem h3 s hs).2
 have := (mayO_iff.1 h1).1.2
 omega
theorem th10_err : errB (thB 10) = 0 := by decide +kernel
theorem th12_err : errB (thB 12) = 0 := by decide +kernel
theorem th10_len : (bytesB (thB 10)).length ≤ 256 := by decide +kernel
def lgA : Lg := ⟨256, 10, [⟨10, []⟩]⟩
def lgB : Lg := ⟨256, 10, [⟨10, bytesB (thB 10)⟩]⟩
def lgD : Lg := ⟨256, 13, [⟨10, bytesB (thB 10)⟩]⟩
theorem may_ex : mayO 256 10 = true := by decide
theorem new_ex : newL 256 10 = (lgA, 0) := by rw [newL, if_pos may_ex]; rfl
theorem chk_A : chkL lgA = 0 := new_chk may_ex
theorem all_A : allL lgA = [] := rfl
theorem app_ex : appL lgA (thB 10) = (lgB, 0) := by
 have h1 : lastS lgA = ⟨10, []⟩ := rfl
 have h2 : appS ⟨10, []⟩ (thB 10) 256 = (⟨10, bytesB (thB 10)⟩, 0) := by
  have := th10_len
  have h3 := appS_w (s := ⟨10, []⟩) (b := thB 10) (limit := 256) (whole_iff.2 ⟨rfl, by decide⟩) (by decide) th10_err (by decide)
  rw [h3, if_neg (by simp; omega)]
  simp
 have := th10_len
 have hl : lgA.limit = 256 := rfl
 rw [appL, if_pos chk_A, if_pos th10_err, if_neg (by decide), if_neg (by rw [hl]; omega), h1, hl, h2, if_pos rfl]
 rfl
theorem chk_B : chkL lgB = 0 := by
 obtain ⟨-, -, h, -⟩ := appL_ok (l := lgA) (b := thB 10) (by rw [app_ex])
 rwa [app_ex] at h
theorem end_B : endL lgB = 13 := by
 obtain ⟨-, -, -, h, -⟩ := appL_ok (l := lgA) (b := thB 10) (by rw [app_ex])
 rw [app_ex] at h
 exact h
theorem all_B : allL lgB = [thB 10] := by
 have := appL_all (l := lgA) (b := thB 10) (by rw [app_ex])
 rw [app_ex, all_A] at this
 exact this
theorem scan_ex : scanB ⟨10, bytesB (thB 10)⟩ = [thB 10] := scan_one (b := thB 10) th10_err
theorem bs_B : bsS lgB.segs = [thB 10] := by
 show bsS [⟨10, bytesB (thB 10)⟩] = _
 rw [bsS_cons, scan_ex, bsS_nil, List.append_nil]
theorem tru_ex : truL lgB 12 = (lgA, 0) := by
 have h1 : betw lgB 12 = true := by rw [betw, end_B]; decide
 have h2 : truS lgB.segs 12 = [⟨10, []⟩] := by
  show ((([⟨10, bytesB (thB 10)⟩] : List Sg).filter fun s => decide (s.base < 12)).map fun s => cutS s 12) = _
  rw [List.filter_cons, if_pos (by decide), List.filter_nil, List.map_cons, List.map_nil, cutS, scan_ex, List.takeWhile_cons, if_neg (by decide)]
  rfl
 rw [truL, if_pos chk_B, if_pos h1, truT, h2, if_neg (by simp)]
 rfl
theorem read_ex : readL lgB 11 0 = ([thB 10], 0) := by
 have h1 : betw lgB 11 = true := by rw [betw, end_B]; decide
 rw [readL, if_pos chk_B, if_neg (by decide), if_pos h1, bs_B, reach_one, if_pos (by decide)]
 rfl
theorem read_ex2 : readL lgB 14 0 = ([], 90) := by
 have h1 : ¬ betw lgB 14 = true := by rw [betw, end_B]; decide
 rw [readL, if_pos chk_B, if_neg (by decide), if_neg h1]
theorem app_ex2 : appL lgB (thB 12) = (noneL, 71) := by
 rw [appL, if_pos chk_B, if_pos th12_err, if_pos (by rw [end_B]; decide)]
theorem trm_ex : trmL lgB 13 = (lgD, 0) := by
 have h1 : betw lgB 13 = true ∧ inO 13 = true := by rw [betw, end_B]; decide
 rw [trmL, if_pos chk_B, if_pos h1]
 rfl
theorem chk_D : chkL lgD = 0 := by
 obtain ⟨h1, h2, h3, h4⟩ := chkL_0 chk_B
 exact chkL_is (by decide) h2 h3 h4
theorem all_D : allL lgD = [] := by
 show reach 13 (bsS lgB.segs) = []
 rw [bs_B, reach_one, if_neg (by decide)]
theorem rep_ex : repL lgB 0 [] = (noneL, 90) := by
 rw [repL, if_pos chk_B, if_neg (by decide)]
theorem chk_none : chkL noneL = 1 := by
 rw [chkL, if_neg (by decide)]
theorem F6 : Fun Tryz.prog 6 162 v6 c6 o6 := Fun.mkA Tryz.func6 Tryz.ntmps6
theorem dz0 : decide ((0 : Int) ≠ 0) = false := by decide
set_option maxHeartbeats 2000000 in
theorem CLive_ok (G : Nat → Option Obj) : FnS Tryz.prog 6 #[] G (.bool true) := by
 refine F6.fnS (by simp) (go_of ?_)
 unfold c6
 intros; refine gr 0 0 ?_; refine sJ c6r0.eq_1 ?_
 intros; refine gr 19 23 ?_; refine sJ c6r1.eq_1 ?_
 have hnew := CNew_ok 256 10 G
 rw [new_ex] at hnew
 refine (hnew _ _).mono ?_
 rintro r h' ⟨G1, rfl, hg1, cs1, rfl, hle1⟩
 have hle1' := hle1
 obtain ⟨A1, c1, rfl, hs1, hia, hja⟩ := hle1
 unfold cellL at hle1' ⊢
 have hl1 : lgA.limit = 256 := rfl
 have hl2 : lgA.start = 10 := rfl
 have hl3 : lgA.segs.length = 1 := rfl
 rw [hl1, hl2, hl3] at hle1' ⊢
 rw [hl3] at hs1
 have hsmA : smL lgA.segs := sm_of chk_A
 have hsmB : smL lgB.segs := sm_of chk_B
 have hc10 : ∀ B d, cellH (thB 10) (.slice B 2 d) = [.int .i64 10, .int .i64 12, .int .i64 10, .int .i64 0, .int .i64 (-1), .int .i64 0, .int .i64 0, .bool false, .int .i64 0, .slice B 2 d] := fun _ _ => rfl
 have hc12 : ∀ B d, cellH (thB 12) (.slice B 2 d) = [.int .i64 12, .int .i64 14, .int .i64 12, .int .i64 0, .int .i64 (-1), .int .i64 0, .int .i64 0, .bool false, .int .i64 0, .slice B 2 d] := fun _ _ => rfl
 have happA : ∀ G' B d, Gle G1 G' → BE G' (thB 10) [.int .i64 10, .int .i64 12, .int .i64 10, .int .i64 0, .int .i64 (-1), .int .i64 0, .int .i64 0, .bool false, .int .i64 0, .slice B 2 d] → FnD Tryz.prog 19 #[.agg #[.int .i64 256, .int .i64 10, .slice A1 1 c1], .agg #[.int .i64 10, .int .i64 12, .int .i64 10, .int .i64 0, .int .i64 (-1), .int .i64 0, .int .i64 0, .bool false, .int .i64 0, .slice B 2 d]] G' (LgR (lgB, 0)) := fun G' B d hg hbe => by
  have := CAppend_ok lgA (thB 10) _ _ G' (LE.le hg hle1') hsmA (by decide) hbe
  rwa [app_ex] at this
 refine sI ?_
 intros; try refine go_seq ?_
 refine go_cut (fun e h => ∃ (G2 : Nat → Option Obj) (b3 : Nat) (A2 : Option Addr) (c2 : Nat), (Gle G1 G2 ∧ LE G2 lgB [.int .i64 256, .int .i64 10, .slice A2 1 c2]) ∧ e 2 = .int .i64 0 ∧ e 3 = .pointer (some ⟨b3, 0, none⟩) ∧ e 4 = .int .i64 0 ∧ h = ⟨G2, [.blk b3 [.int .i64 256, .int .i64 10, .slice A2 1 c2], .reg 1 [.int .i64 256, .int .i64 10, .slice A1 1 c1]], []⟩) ?_ ?_
 ·(intros; try refine go_st ?_); refine go_z _ (List.Sublist.refl _) (by decide) ?_; refine sJ c6r2.eq_1 ?_
  refine ⟨?_, ?_⟩
  ·refine (three_ok 10 G1 (by omega) (by omega) _ _).mono ?_
   rintro r h' ⟨G2, rfl, hg2, B, d, rfl, hbe⟩
   rw [hc10] at hbe ⊢
   refine sI ?_
   refine ⟨grow_G hg2, ?_⟩
   refine ⟨?_, ?_⟩
   ·refine (happA G2 B d hg2 hbe _ _).mono ?_
    rintro r h' ⟨G3, rfl, hg3, cs3, rfl, hle3⟩
    have hle3' := hle3
    obtain ⟨A3, c3, rfl, -⟩ := hle3
    unfold cellL at hle3' ⊢
    have hg13 := hg2.trans hg3
    refine sI ?_
    refine ⟨grow_G hg13, ?_⟩
    intro b3 hb3
    refine ⟨grow_L hg13 (.cons _ (List.Sublist.refl _)), ?_⟩
    refine sI ?_
    refine stX_blk [] _ rfl (Nat.le_refl 3) ⟨rfl, rfl⟩ ?_
    refine sI ?_
    refine ⟨grow_L hg13 (.cons _ (List.Sublist.refl _)), ?_⟩
    refine sI ?_
    exact go_l ⟨G3, b3, A3, c3, ⟨hg13, hle3'⟩, eE, eE, eE, rfl⟩
   ·intro b3 hb3
    refine ⟨grow_L hg2 (.cons _ (List.Sublist.refl _)), ?_⟩
    refine (happA G2 B d hg2 hbe _ _).mono ?_
    rintro r h' ⟨G3, rfl, hg3, cs3, rfl, hle3⟩
    have hle3' := hle3
    obtain ⟨A3, c3, rfl, -⟩ := hle3
    unfold cellL at hle3' ⊢
    have hg13 := hg2.trans hg3
    refine sI ?_
    refine ⟨grow_L hg13 (.cons _ (List.Sublist.refl _)), ?_⟩
    refine sI ?_
    refine stX_blk [] _ rfl (Nat.le_refl 3) ⟨rfl, rfl⟩ ?_
    refine sI ?_
    refine ⟨grow_L hg13 (.cons _ (List.Sublist.refl _)), ?_⟩
    refine sI ?_
    exact go_l ⟨G3, b3, A3, c3, ⟨hg13, hle3'⟩, eE, eE, eE, rfl⟩
  ·intro b3 hb3
   refine ⟨grow_L (fun _ _ h => h) (.cons _ (List.Sublist.refl _)), ?_⟩
   refine (three_ok 10 G1 (by omega) (by omega) _ _).mono ?_
   rintro r h' ⟨G2, rfl, hg2, B, d, rfl, hbe⟩
   rw [hc10] at hbe ⊢
   refine sI ?_
   refine ⟨grow_L hg2 (.cons _ (List.Sublist.refl _)), ?_⟩
   refine (happA G2 B d hg2 hbe _ _).mono ?_
   rintro r h' ⟨G3, rfl, hg3, cs3, rfl, hle3⟩
   have hle3' := hle3
   obtain ⟨A3, c3, rfl, -⟩ := hle3
   unfold cellL at hle3' ⊢
   have hg13 := hg2.trans hg3
   refine sI ?_
   refine ⟨grow_L hg13 (.cons _ (List.Sublist.refl _)), ?_⟩
   refine sI ?_
   refine stX_blk [] _ rfl (Nat.le_refl 3) ⟨rfl, rfl⟩ ?_
   refine sI ?_
   refine ⟨grow_L hg13 (.cons _ (List.Sublist.refl _)), ?_⟩
   refine sI ?_
   exact go_l ⟨G3, b3, A3, c3, ⟨hg13, hle3'⟩, eE, eE, eE, rfl⟩
 rintro e h ⟨G2, b3, A2, c2, ⟨hg2, hleB⟩, e2, e3, e4, rfl⟩
 refine go_keep [2, 3, 4] ?_
 refine sJ3 @e2 @e3 @e4 ?_
 intros
 refine go_gx gx_blk ?_
 rintro h' ⟨G3, rfl, hg3, f3⟩
 have hB3 : LE G3 lgB [.int .i64 256, .int .i64 10, .slice A2 1 c2] := LE.le hg3 hleB
 have htru := Truncate_ok lgB 12 _ G3 hB3 hsmB (by decide) (by decide)
 rw [tru_ex] at htru
 intros; refine gr 29 34 ?_; refine sJ c6r3.eq_1 ?_
 refine ⟨_, ⟨_, [.int .i64 256, .int .i64 10, .slice A2 1 c2], rfl, rfl, rfl, fun j u hu => .g (f3 j u hu)⟩, ?_⟩
 refine sI ?_
 refine (htru _ _).mono ?_
 rintro r h' ⟨G4, rfl, hg4, cs4, rfl, hle4⟩
 have hC4 := hle4
 obtain ⟨A4, c4, rfl, -⟩ := hle4
 unfold cellL at hC4 ⊢
 rw [hl1, hl2, hl3] at hC4 ⊢
 have f4 := fun j u hu => cellG_le hg4 (f3 j u hu)
 have hread := Read_ok lgB 11 0 _ G4 (LE.le hg4 hB3) hsmB (by decide) (by decide) (by decide)
 rw [read_ex] at hread
 refine sI ?_
 intros; refine gr 34 39 ?_; refine sJ c6r4.eq_1 ?_
 refine ⟨_, ⟨_, [.int .i64 256, .int .i64 10, .slice A2 1 c2], rfl, rfl, rfl, fun j u hu => .g (f4 j u hu)⟩, ?_⟩
 refine sI ?_
 refine (hread _ _).mono ?_
 rintro r h' ⟨G5, rfl, hg5, A5, c5, rfl, hs5⟩
 have f5 := fun j u hu => cellG_le hg5 (f4 j u hu)
 have hg35 := hg4.trans hg5
 have hread2 := Read_ok lgB 14 0 _ G5 (LE.le hg35 hB3) hsmB (by decide) (by decide) (by decide)
 rw [read_ex2] at hread2
 dsimp only at hs5 ⊢
 refine sI ?_
 intros; refine gr 39 44 ?_; refine sJ c6r5.eq_1 ?_
 refine ⟨_, ⟨_, [.int .i64 256, .int .i64 10, .slice A2 1 c2], rfl, rfl, rfl, fun j u hu => .g (f5 j u hu)⟩, ?_⟩
 refine sI ?_
 refine (hread2 _ _).mono ?_
 rintro r h' ⟨G6, rfl, hg6, A6, c6, rfl, hs6⟩
 have f6 := fun j u hu => cellG_le hg6 (f5 j u hu)
 have hg36 := hg35.trans hg6
 dsimp only at hs6 ⊢
 refine sI ?_
 intros; try refine go_seq ?_
 have happB : ∀ G' B d, Gle G6 G' → BE G' (thB 12) [.int .i64 12, .int .i64 14, .int .i64 12, .int .i64 0, .int .i64 (-1), .int .i64 0, .int .i64 0, .bool false, .int .i64 0, .slice B 2 d] → FnD Tryz.prog 19 #[.agg #[.int .i64 256, .int .i64 10, .slice A2 1 c2], .agg #[.int .i64 12, .int .i64 14, .int .i64 12, .int .i64 0, .int .i64 (-1), .int .i64 0, .int .i64 0, .bool false, .int .i64 0, .slice B 2 d]] G' (LgR (noneL, 71)) := fun G' B d hg hbe => by
  have := CAppend_ok lgB (thB 12) _ _ G' (LE.le (hg36.trans hg) hB3) hsmB (by decide) hbe
  rwa [app_ex2] at this
 have hn1 : noneL.limit = 0 := rfl
 have hn2 : noneL.start = 0 := rfl
 have hn3 : noneL.segs.length = 0 := rfl
 refine go_cut (fun e h => ∃ (G7 : Nat → Option Obj) (b11 : Nat) (A8 : Option Addr) (c8 : Nat), Gle G6 G7 ∧ e 2 = .int .i64 0 ∧ e 3 = .pointer (some ⟨b3, 0, none⟩) ∧ e 4 = .int .i64 0 ∧ e 6 = .int .i64 0 ∧ e 7 = .slice A5 1 c5 ∧ e 8 = .int .i64 0 ∧ e 10 = .int .i64 90 ∧ e 12 = .int .i64 71 ∧ h = ⟨G7, [.blk b11 [.int .i64 0, .int .i64 0, .slice A8 0 c8], .reg 5 [.int .i64 256, .int .i64 10, .slice A4 1 c4], .reg 1 [.int .i64 256, .int .i64 10, .slice A1 1 c1]], []⟩) ?_ ?_
 ·(intros; try refine go_st ?_); refine go_z _ (List.Sublist.refl _) (by decide) ?_; refine sJ c6r6.eq_1 ?_
  refine ⟨_, ⟨_, [.int .i64 256, .int .i64 10, .slice A2 1 c2], rfl, rfl, rfl, fun j u hu => .g (f6 j u hu)⟩, ?_⟩
  refine sI ?_
  refine ⟨?_, ?_⟩
  ·refine (three_ok 12 G6 (by omega) (by omega) _ _).mono ?_
   rintro r h' ⟨G7, rfl, hg7, B, d, rfl, hbe⟩
   rw [hc12] at hbe ⊢
   refine sI ?_
   refine ⟨grow_G hg7, ?_⟩
   refine ⟨?_, ?_⟩
   ·refine (happB G7 B d hg7 hbe _ _).mono ?_
    rintro r h' ⟨G8, rfl, hg8, cs8, rfl, hle8⟩
    obtain ⟨A8, c8, rfl, -⟩ := hle8
    unfold cellL
    have hg68 := hg7.trans hg8
    rw [hn1, hn2, hn3]
    refine sI ?_
    refine ⟨grow_G hg68, ?_⟩
    intro b11 hb11
    refine ⟨grow_L hg68 (.cons _ (List.Sublist.refl _)), ?_⟩
    refine sI ?_
    refine stX_blk [] _ rfl (Nat.le_refl 3) ⟨rfl, rfl⟩ ?_
    refine sI ?_
    refine ⟨grow_L hg68 (.cons _ (List.Sublist.refl _)), ?_⟩
    refine sI ?_
    exact go_l ⟨G8, b11, A8, c8, hg68, eE, eE, eE, eE, eE, eE, eE, eE, rfl⟩
   ·intro b11 hb11
    refine ⟨grow_L hg7 (.cons _ (List.Sublist.refl _)), ?_⟩
    refine (happB G7 B d hg7 hbe _ _).mono ?_
    rintro r h' ⟨G8, rfl, hg8, cs8, rfl, hle8⟩
    obtain ⟨A8, c8, rfl, -⟩ := hle8
    unfold cellL
    have hg68 := hg7.trans hg8
    rw [hn1, hn2, hn3]
    refine sI ?_
    refine ⟨grow_L hg68 (.cons _ (List.Sublist.refl _)), ?_⟩
    refine sI ?_
    refine stX_blk [] _ rfl (Nat.le_refl 3) ⟨rfl, rfl⟩ ?_
    refine sI ?_
    refine ⟨grow_L hg68 (.cons _ (List.Sublist.refl _)), ?_⟩
    refine sI ?_
    exact go_l ⟨G8, b11, A8, c8, hg68, eE, eE, eE, eE, eE, eE, eE, eE, rfl⟩
  ·intro b11 hb11
   refine ⟨grow_L (fun _ _ h => h) (.cons _ (List.Sublist.refl _)), ?_⟩
   refine (three_ok 12 G6 (by omega) (by omega) _ _).mono ?_
   rintro r h' ⟨G7, rfl, hg7, B, d, rfl, hbe⟩
   rw [hc12] at hbe ⊢
   refine sI ?_
   refine ⟨grow_L hg7 (.cons _ (List.Sublist.refl _)), ?_⟩
   refine (happB G7 B d hg7 hbe _ _).mono ?_
   rintro r h' ⟨G8, rfl, hg8, cs8, rfl, hle8⟩
   obtain ⟨A8, c8, rfl, -⟩ := hle8
   unfold cellL
   have hg68 := hg7.trans hg8
   rw [hn1, hn2, hn3]
   refine sI ?_
   refine ⟨grow_L hg68 (.cons _ (List.Sublist.refl _)), ?_⟩
   refine sI ?_
   refine stX_blk [] _ rfl (Nat.le_refl 3) ⟨rfl, rfl⟩ ?_
   refine sI ?_
   refine ⟨grow_L hg68 (.cons _ (List.Sublist.refl _)), ?_⟩
   refine sI ?_
   exact go_l ⟨G8, b11, A8, c8, hg68, eE, eE, eE, eE, eE, eE, eE, eE, rfl⟩
 rintro e h ⟨G7, b11, A8, c8, hg7, e2, e3, e4, e6, e7, e8, e10, e12, rfl⟩
 refine go_keep [2, 3, 4, 6, 7, 8, 10, 12] ?_
 (try simp -implicitDefEqProofs only [kR_e, kQ_e, push_cast, Nat.reduceBEq, Nat.reduceAdd, Nat.reduceSub, Nat.reduceMul, Nat.reduceLT, Nat.reduceLeDiff, Nat.reduceEqDiff, reduceIte, Bool.not_true, Bool.not_false, true_and, and_true, Option.map_some, Option.bind_some, Int.toNat_natCast, e2, e3, e4, e6, e7, e8, e10, e12])
 intros
 refine go_ghost (ghost_sub (L' := [.reg 5 [.int .i64 256, .int .i64 10, .slice A4 1 c4], .reg 1 [.int .i64 256, .int .i64 10, .slice A1 1 c1]]) (.cons _ (List.Sublist.refl _))) ?_
 have f7 := fun j u hu => cellG_le hg7 (f6 j u hu)
 have hg37 := hg36.trans hg7
 have htrm := Trim_ok lgB 13 _ G7 (LE.le hg37 hB3) hsmB (by decide) (by decide)
 rw [trm_ex] at htrm
 intros; refine gr 50 55 ?_; refine sJ c6r7.eq_1 ?_
 refine ⟨_, ⟨_, [.int .i64 256, .int .i64 10, .slice A2 1 c2], rfl, rfl, rfl, fun j u hu => .g (f7 j u hu)⟩, ?_⟩
 refine sI ?_
 refine (htrm _ _).mono ?_
 rintro r h' ⟨G8, rfl, hg8, cs8, rfl, hle8⟩
 have hD8 := hle8
 obtain ⟨A9, c9, rfl, -⟩ := hle8
 unfold cellL at hD8 ⊢
 have hd1 : lgD.limit = 256 := rfl
 have hd2 : lgD.start = 13 := rfl
 have hd3 : lgD.segs.length = 1 := rfl
 rw [hd1, hd2, hd3] at hD8 ⊢
 have f8 := fun j u hu => cellG_le hg8 (f7 j u hu)
 have hg38 := hg37.trans hg8
 have hrec := Recover_ok lgB _ G8 (LE.le hg38 hB3) hsmB (by decide)
 rw [recL_ok chk_B] at hrec
 refine sI ?_
 intros; refine gr 55 60 ?_; refine sJ c6r8.eq_1 ?_
 refine ⟨_, ⟨_, [.int .i64 256, .int .i64 10, .slice A2 1 c2], rfl, rfl, rfl, fun j u hu => .g (f8 j u hu)⟩, ?_⟩
 refine sI ?_
 refine (hrec _ _).mono ?_
 rintro r h' ⟨G9, rfl, hg9, cs9, rfl, hle9⟩
 have hR9 := hle9
 obtain ⟨A10, c10, rfl, -⟩ := hle9
 unfold cellL at hR9 ⊢
 have hb1 : lgB.limit = 256 := rfl
 have hb2 : lgB.start = 10 := rfl
 have hb3 : lgB.segs.length = 1 := rfl
 rw [hb1, hb2, hb3] at hR9 ⊢
 have f9 := fun j u hu => cellG_le hg9 (f8 j u hu)
 have hg39 := hg38.trans hg9
 have hrep := CReplace_ok lgB 0 [] _ _ G9 (LE.le hg39 hB3) hsmB (by decide) (by decide) slN
 rw [rep_ex] at hrep
 refine sI ?_
 intros; refine gr 60 65 ?_; refine sJ c6r9.eq_1 ?_
 refine ⟨_, ⟨_, [.int .i64 256, .int .i64 10, .slice A2 1 c2], rfl, rfl, rfl, fun j u hu => .g (f9 j u hu)⟩, ?_⟩
 refine sI ?_
 refine (hrep _ _).mono ?_
 rintro r h' ⟨G10, rfl, hg10, cs10, rfl, hle10⟩
 obtain ⟨A11, c11, rfl, -⟩ := hle10
 unfold cellL
 rw [hn1, hn2, hn3]
 have f10 := fun j u hu => cellG_le hg10 (f9 j u hu)
 have hg3x := hg39.trans hg10
 refine sI ?_
 have dz1 : decide ((0 : Int) + 1 ≠ 1) = false := by decide
 intros; refine gr 65 87 ?_; refine sJ3 c6r10.eq_1 @dz0 @dz1 ?_
 intros; refine gc ?_; refine sI ?_
 intros; refine gN ?_
 have q10 : decide ((10 : Int) = 10) = true := by decide
 have q13 : decide ((13 : Int) = 13) = true := by decide
 have q0 : decide ((0 : Int) = 0) = true := by decide
 have q1 : decide ((0 : Int) + 1 = 1) = true := by decide
 have q1' : decide ((1 : Int) = 1) = true := by decide
 have q90 : decide ((90 : Int) = 90) = true := by decide
 have q71 : decide ((71 : Int) = 71) = true := by decide
 have hA10 : LE G10 lgA [.int .i64 256, .int .i64 10, .slice A1 1 c1] := LE.le (hg2.trans (hg3.trans hg3x)) hle1'
 have hB10 := LE.le hg3x hB3
 have hC10 := LE.le (hg5.trans (hg6.trans (hg7.trans (hg8.trans (hg9.trans hg10))))) hC4
 have hEA : EndL lgA = 10 := by rw [EndL, if_pos chk_A]; rfl
 have hEB : EndL lgB = 13 := by rw [EndL, if_pos chk_B, end_B]
 have x1 := CEnd_ok lgA _ G10 hA10 hsmA (by decide)
 have x2 := CEnd_ok lgB _ G10 hB10 hsmB (by decide)
 have x3 := CEnd_ok lgA _ G10 hC10 hsmA (by decide)
 rw [hEA] at x1 x3
 rw [hEB] at x2
 have x4 := All_ok lgA _ G10 hC10 hsmA
 rw [AllL, if_pos chk_A, all_A] at x4
 intros; refine gr 88 162 ?_; refine sJ c6r12.eq_1 ?_
 refine (x1 _ _).mono ?_; rintro _ _ ⟨rfl, rfl⟩; refine sJ @q10 ?_
 refine ⟨_, ⟨_, [.int .i64 256, .int .i64 10, .slice A2 1 c2], rfl, rfl, rfl, fun j u hu => .g (f10 j u hu)⟩, ?_⟩
 refine sI ?_
 refine (x2 _ _).mono ?_; rintro _ _ ⟨rfl, rfl⟩; refine sJ @q13 ?_
 refine (x3 _ _).mono ?_; rintro _ _ ⟨rfl, rfl⟩; refine sJ @q10 ?_
 refine (x4 _ _).mono ?_
 rintro r h' ⟨G11, rfl, hg11, A12, c12, rfl, -⟩
 have f11 := fun j u hu => cellG_le hg11 (f10 j u hu)
 have hn0 : (([] : List Batch).length : Int) = 0 := rfl
 refine sJ2 @hn0 @q0 ?_
 obtain ⟨A0, c0, he0, -, -, hs5A⟩ := hs5.le (hg6.trans (hg7.trans (hg8.trans (hg9.trans (hg10.trans hg11))))) (E' := BE G5) fun _ _ h => h
 cases he0
 refine hs5A.x_lf (k := 0) (u := .int .i64 10) rfl rfl rfl (fun cs h => by obtain ⟨_, _, rfl, -⟩ := h; rfl) fun a ha => ?_
 refine sJ @q10 ?_
 refine sJ @q90 ?_
 refine sJ @q71 ?_
 refine ⟨_, ⟨_, [.int .i64 256, .int .i64 10, .slice A2 1 c2], rfl, rfl, rfl, fun j u hu => .g (f11 j u hu)⟩, ?_⟩
 refine sI ?_
 have x5 := All_ok lgB _ G11 (LE.le hg11 hB10) hsmB
 rw [AllL, if_pos chk_B, all_B] at x5
 refine (x5 _ _).mono ?_
 rintro r h' ⟨G12, rfl, hg12, A13, c13, rfl, -⟩
 have f12 := fun j u hu => cellG_le hg12 (f11 j u hu)
 have hg1012 := hg11.trans hg12
 have hD12 := LE.le (hg9.trans (hg10.trans hg1012)) hD8
 have x6 := All_ok lgD _ G12 hD12 (sm_of chk_D)
 rw [AllL, if_pos chk_D, all_D] at x6
 have hone : (([thB 10] : List Batch).length : Int) = 1 := rfl
 refine sJ3 @hone @q1' @q1 ?_
 refine (x6 _ _).mono ?_
 rintro r h' ⟨G13, rfl, hg13, A14, c14, rfl, -⟩
 have f13 := fun j u hu => cellG_le hg13 (f12 j u hu)
 have hg1013 := hg1012.trans hg13
 refine sJ2 @hn0 @q0 ?_
 refine sJ @q13 ?_
 refine ⟨_, ⟨_, [.int .i64 256, .int .i64 10, .slice A2 1 c2], rfl, rfl, rfl, fun j u hu => .g (f13 j u hu)⟩, ?_⟩
 refine sI ?_
 have x7 := LSame_ok lgB lgB _ _ G13 (LE.le (hg10.trans hg1013) hR9) (LE.le hg1013 hB10)
 rw [decide_eq_true rfl] at x7
 refine (x7 _ _).mono ?_; rintro _ _ ⟨rfl, rfl⟩; refine sI ?_
 refine sJ @q0 ?_
 refine sJ @q90 ?_
 refine ⟨_, ⟨_, [.int .i64 256, .int .i64 10, .slice A2 1 c2], rfl, rfl, rfl, fun j u hu => .g (f13 j u hu)⟩, ?_⟩
 refine sI ?_
 have x8 := ChkL_ok lgB _ G13 (LE.le hg1013 hB10) hsmB
 rw [chk_B] at x8
 refine (x8 _ _).mono ?_; rintro _ _ ⟨rfl, rfl⟩; refine sJ @q0 ?_
 have x9 := ChkL_ok noneL [.int .i64 0, .int .i64 0, .slice none 0 0] G13 ⟨none, 0, rfl, slN, i64_0, i64_0⟩ (fun s hs => by cases hs)
 rw [chk_none] at x9
 refine (x9 _ _).mono ?_; rintro _ _ ⟨rfl, rfl⟩; refine sJ @q1' ?_
 intros; refine rV ?_; simp only [push_cast, Nat.reduceBEq]
theorem y_lg {α : Type} {P : Program} {h : H} {d sz : Nat} {l : List SI} {G : Nat → Option Obj} {E : α → List Value → Prop} {A : Option Addr} {xs : List α} {K : Env → Prop} {e : Addr → Env} {j : Int} {k o : Nat} {x : α} {Pu : Value → Prop} (hA : SlA G E sz A xs) (hx : xs[k]? = some x) (hj : j = k) (hG : h.G = G) (hu : ∀ cs, E x cs → ∃ u, cs[o]? = some u ∧ Pu u)
  (hk : ∀ a, A = some a → ∀ u, Pu u → kQ P l d (e a) h K u) : (0 ≤ j ∧ j < xs.length) ∧ ∃ a, A = some a ∧ lqX P (.pointer (some ((a.add (j.toNat * sz)).add o))) none d l (e a) h K := by
 obtain ⟨G', L, D⟩ := h
 dsimp only at hG
 subst hG
 obtain ⟨a, cs, ha, hE, _, _, hld⟩ := hA.at_ hx L D
 obtain ⟨u, hu, hp⟩ := hu cs hE
 have := SlA.lt hx
 subst hj
 exact ⟨by omega, a, ha, _, by simpa using hld o u hu, hk a ha u hp⟩
theorem F88 : Fun Tryz.prog 88 13 v88 c88 o88 := Fun.mkA Tryz.func88 Tryz.ntmps88
theorem F56 : Fun Tryz.prog 56 54 v56 c56 o56 := Fun.mkA Tryz.func56 Tryz.ntmps56
theorem F58 : Fun Tryz.prog 58 47 v58 c58 o58 := Fun.mkA Tryz.func58 Tryz.ntmps58
theorem F63 : Fun Tryz.prog 63 38 v63 c63 o63 := Fun.mkA Tryz.func63 Tryz.ntmps63
theorem RNew_ok (base : Int) (G : Nat → Option Obj) : FnO Tryz.prog 88 #[.int .i64 base] G [] (fun _ L' r => OwnSE (newS base) L' r) := by
 refine F88.fnO (by simp) noRegs_nil (go_of ?_)
 unfold c88
 have hbad : ∀ (fr : List Td) (e : Env), ¬ inO base = true → go none Tryz.prog 13 v88.1 v88.2 (retQ o88 fun v h => OwnSE (newS base) h.L v) (Td.s ((SC.reg false c88r2).seq .ret) :: fr) e ⟨G, [.reg 2 [.int .i64 0, .slice none 0 0]], []⟩ := fun fr e hn => by
  intros; refine gr 10 11 ?_; refine sJ c88r2.eq_1 ?_
  (intros; try refine go_st ?_)
  refine go_ghost (ghost_nil none 5 1) ?_
  refine go_ret (retQ_o _ rfl (.cons_cons _ (List.nil_sublist _)) (noRegs_row noRegs_nil) ?_)
  rw [newS, if_neg hn]
  exact ⟨_, [], rfl, rfl, .nil⟩
 intros; refine gr 0 0 ?_; refine sJ c88r0.eq_1 ?_
 intros; refine gr 4 9 ?_; refine sJ c88r1.eq_1 ?_
 refine gd (fun h1 => ?_) (fun h1 => ?_)
 ·have h1 := of_decide_eq_true h1
  refine sI ?_
  intros; refine gc ?_; refine sI ?_
  exact hbad _ _ fun h => by have := inO_iff.1 h; omega
 have h1 := of_decide_eq_false h1
 refine sI ?_
 intros; refine gc ?_; refine sI ?_
 refine gb (fun h2 => ?_) (fun h2 => ?_)
 ·have h2 := of_decide_eq_true h2
  exact hbad _ _ fun h => by have := inO_iff.1 h; omega
 have h2 := of_decide_eq_false h2
 have h : inO base = true := inO_iff.2 (by omega)
 intros; refine gN ?_
 intros; refine gr 11 13 ?_; refine sJ c88r3.eq_1 ?_
 (intros; try refine go_st ?_)
 refine go_ghost (ghost_nil none 5 1) ?_
 refine go_ret (retQ_o _ rfl (.cons_cons _ (List.nil_sublist _)) (noRegs_row noRegs_nil) ?_)
 rw [newS, if_pos h]
 exact ⟨_, [], rfl, rfl, .nil⟩
theorem wholeB_iff {s : Sg} : wholeB s = true ↔ goodB s = s.bytes.length ∧ inO s.base = true := by
 simp [wholeB, and_comm]
theorem RAppend_ok (s : Sg) (x : Batch) (limit : Int) (cs ds : List Value) (G : Nat → Option Obj) (hs : SE G s cs) (hb : s.bytes.length ≤ 100000) (hx : BE G x ds) (hi : I64 limit) :
  FnO Tryz.prog 56 #[.agg cs.toArray, .agg ds.toArray, .int .i64 limit] G [] (fun _ L' r => OwnSE (appS s x limit) L' r) := by
 have hs0 := hs
 have hx0 := hx
 have hwh := RWhole_ok s cs G hs (by omega)
 obtain ⟨A, c, rfl, hl, hib⟩ := hs
 obtain ⟨B, d, rfl, -⟩ := hx
 refine F56.fnO (by simp) noRegs_nil (go_of ?_)
 unfold c56
 unfold cellS at hs0 hwh ⊢
 unfold cellH at hx0 ⊢
 intros; refine gr 0 0 ?_; refine sJ c56r0.eq_1 ?_
 have hbad : ∀ (fr : List Td) (e : Env) (X : List Kx.Item) (Y : List Value), ¬ (goodB s = s.bytes.length ∧ inO s.base = true ∧ limO limit = true) → go none Tryz.prog 54 v56.1 v56.2 (retQ o56 fun v h => OwnSE (appS s x limit) h.L v) (Td.s ((SC.reg false c56r2).seq .ret) :: fr) e ⟨G, .reg 6 [.int .i64 0, .slice none 0 0] :: X, []⟩ := fun fr e X Y hn => by
  intros; refine gr 21 22 ?_; refine sJ c56r2.eq_1 ?_
  (intros; try refine go_st ?_)
  refine go_ghost (ghost_nil none 5 1) ?_
  refine go_ret (retQ_o _ rfl (.cons_cons _ (List.nil_sublist _)) (noRegs_row noRegs_nil) ?_)
  rw [appS_1 hn]
  exact ⟨_, [], rfl, rfl, .nil⟩
 intros; refine gr 10 20 ?_; refine sJ c56r1.eq_1 ?_
 refine (hwh _ _).mono ?_; rintro _ _ ⟨rfl, rfl⟩; refine sI ?_
 refine gd (fun k1 => ?_) (fun k1 => ?_)
 ·refine sI ?_
  intros; refine gc ?_; refine sI ?_
  exact hbad _ _ _ [] fun h => by rw [wholeB_iff.2 ⟨h.1, h.2.1⟩] at k1; cases k1
 have k1 := wholeB_iff.1 (by simpa using k1)
 refine sI ?_
 refine gd (fun k2 => ?_) (fun k2 => ?_)
 ·have k2 := of_decide_eq_true k2
  refine sI ?_
  intros; refine gc ?_; refine sI ?_
  exact hbad _ _ _ [] fun h => by have := limO_iff.1 h.2.2; omega
 have k2 := of_decide_eq_false k2
 refine sI ?_
 intros; refine gc ?_; refine sI ?_
 refine gb (fun k3 => ?_) (fun k3 => ?_)
 ·have k3 := of_decide_eq_true k3
  exact hbad _ _ _ [] fun h => by have := limO_iff.1 h.2.2; omega
 have k3 := of_decide_eq_false k3
 clear hbad
 have hok : goodB s = s.bytes.length ∧ inO s.base = true ∧ limO limit = true := ⟨k1.1, k1.2, limO_iff.2 (by omega)⟩
 intros; refine gN ?_
 have hput := RBPut_ok x _ G hx0
 intros; refine gr 22 27 ?_; refine sJ c56r3.eq_1 ?_
 refine (hput _ _).mono ?_
 rintro r h' ⟨G2, L', rfl, hg2, w, rfl, ys, hys, rfl⟩
 refine sI ?_
 intros; try refine go_seq ?_
 refine go_gx (gx_slv_at [] _ (by decide) hys) ?_
 rintro h' ⟨G3, rfl, hg3, hv3⟩
 have hg03 := hg2.trans hg3
 by_cases he : errB x = 0
 rotate_left
 ·rw [putB_n he] at hv3 ⊢
  intros; refine gr 27 28 ?_; refine sJ c56r4.eq_1 ?_
  intros; refine gc ?_; refine sI ?_
  refine gb (fun k4 => ?_) (fun k4 => absurd (of_decide_eq_false k4) (by simpa using he))
  intros; refine gr 29 31 ?_; refine sJ c56r5.eq_1 ?_
  (intros; try refine go_st ?_)
  refine go_ghost (ghost_nil none 5 1) ?_
  refine go_ret (retQ_o _ rfl (.cons_cons _ (List.nil_sublist _)) (noRegs_row noRegs_nil) ?_)
  rw [appS_e hok he]
  exact ⟨_, [], rfl, rfl, .nil⟩
 rw [putB_0 he] at hv3 ⊢
 have hv3 : SB G3 w (bytesB x) := hv3
 have hbl := (errB_ok he).2
 have hz : decide ((0 : Int) ≠ 0) = false := by decide
 intros; refine gr 27 28 ?_; refine sJ2 c56r4.eq_1 @hz ?_
 intros; refine gc ?_; refine sI ?_
 intros; refine gN ?_
 (intros; try refine go_st ?_); refine go_x _ (List.Sublist.refl _) (by decide) ?_; refine sJ c56r6.eq_1 ?_
 refine (REnd_ok s _ G3 (SE.le hg03 hs0) (by omega) _ _).mono ?_; rintro _ _ ⟨rfl, rfl⟩; refine sI ?_
 intros; refine gc ?_; refine sI ?_
 refine gb (fun k5 => ?_) (fun k5 => ?_)
 ·have k5 := of_decide_eq_true k5
  intros; refine gr 36 37 ?_; refine sJ c56r7.eq_1 ?_
  (intros; try refine go_st ?_)
  refine go_ghost (ghost_nil none 5 1) ?_
  refine go_ret (retQ_o _ rfl (.cons_cons _ (List.nil_sublist _)) (noRegs_row noRegs_nil) ?_)
  rw [appS_o hok he k5]
  exact ⟨_, [], rfl, rfl, .nil⟩
 have k5 := of_decide_eq_false k5
 have hw : IntKind.i64.wrap ((s.bytes.length : Int) + ((bytesB x).length : Int)) = ((s.bytes.length + (bytesB x).length : Nat) : Int) := by rw [w64_id] <;> omega
 have hsb3 := hv3
 obtain ⟨A3, c3, rfl, -⟩ := hv3
 intros; refine gN ?_
 intros; refine gr 38 44 ?_; refine sJ2 c56r8.eq_1 @hw ?_
 intros; refine gc ?_; refine sI ?_
 refine gb (fun k6 => ?_) (fun k6 => ?_)
 ·have k6 := of_decide_eq_true k6
  intros; refine gr 45 46 ?_; refine sJ c56r9.eq_1 ?_
  (intros; try refine go_st ?_)
  refine go_ghost (ghost_nil none 5 1) ?_
  refine go_ret (retQ_o _ rfl (.cons_cons _ (List.nil_sublist _)) (noRegs_row noRegs_nil) ?_)
  rw [appS_r hok he k5 k6]
  exact ⟨_, [], rfl, rfl, .nil⟩
 have k6 := of_decide_eq_false k6
 have h0 := appS_0 hok he k5 k6
 intros; refine gN ?_
 (intros; try refine go_st ?_); refine go_y _ (List.Sublist.refl _) (by decide) ?_; refine sJ c56r10.eq_1 ?_
 refine (Copy_ok s.bytes _ G3 (SB.le hl hg03) (by omega) _ _).mono ?_
 rintro r h' ⟨G4, L', rfl, hg4, zs, hzs, rfl⟩
 refine ⟨grow_L hg4 (.cons _ (List.Sublist.refl _)), ?_⟩
 refine sI ?_
 refine apX_v (L1 := []) (.inl rfl) (SB.le hsb3 hg4) rfl UE1 (by unfold maxLen; omega) fun ys5 A5 c5 hc5 => ?_
 have hh := hzs.app hc5
 rw [← List.length_append]
 refine sI ?_
 refine ⟨grow_L hg4 (.cons _ (List.Sublist.refl _)), ?_⟩
 refine sI ?_
 refine sJ c56r11.eq_1 ?_
 (intros; try refine go_st ?_)
 refine go_ret (retQ_o _ rfl (.cons_cons _ (List.nil_sublist _)) (noRegs_row noRegs_nil) ?_)
 rw [h0]
 exact ⟨_, _, rfl, rfl, hh⟩
theorem ROf_ok (base limit : Int) (l : List Batch) (v : Value) (G : Nat → Option Obj) (hl : SlV G (BE G) 10 v l) (hbi : I64 base) (hli : I64 limit) : FnD Tryz.prog 58 #[.int .i64 base, v, .int .i64 limit] G (SegR (ofS base l limit)) := by
 obtain ⟨A, c, rfl, hc, hm, hA⟩ := hl
 refine F58.fnD (by simp) (go_of ?_)
 unfold c58
 intros; refine gr 0 0 ?_; refine sJ c58r0.eq_1 ?_
 intros; refine gr 12 17 ?_; refine sJ c58r1.eq_1 ?_
 refine (ownSE_d (RNew_ok base G) _ _).mono ?_
 rintro r h' ⟨G1, rfl, hg1, A1, c1, rfl, hs1⟩
 refine sI ?_
 have hbad : ∀ (fr : List Td) (e : Env) (X : List Kx.Item), ¬ ((newS base).2 = 0 ∧ limO limit = true) → go none Tryz.prog 47 v58.1 v58.2 (retQ o58 fun v h => SegR (ofS base l limit) h.G v) (Td.s ((SC.reg false c58r3).seq .ret) :: fr) e ⟨G1, [.reg 8 [.int .i64 (newS base).1.base, .slice A1 (newS base).1.bytes.length c1], .reg 6 [.int .i64 0, .slice none 0 0]], []⟩ := fun fr e X hn => by
  intros; refine gr 27 28 ?_; refine sJ c58r3.eq_1 ?_
  intros; refine rV ?_; simp only [push_cast, Nat.reduceBEq]
  rw [ofS, if_neg hn]
  exact noneS_seg
 intros; refine gr 17 26 ?_; refine sJ c58r2.eq_1 ?_
 refine gd (fun k1 => ?_) (fun k1 => ?_)
 ·refine sI ?_
  intros; refine gc ?_; refine sI ?_
  exact hbad _ _ [] fun h => of_decide_eq_true k1 h.1
 have k1 : (newS base).2 = 0 := by simpa using k1
 refine sI ?_
 refine gd (fun k2 => ?_) (fun k2 => ?_)
 ·have k2 := of_decide_eq_true k2
  refine sI ?_
  intros; refine gc ?_; refine sI ?_
  exact hbad _ _ [] fun h => by have := limO_iff.1 h.2; omega
 have k2 := of_decide_eq_false k2
 refine sI ?_
 intros; refine gc ?_; refine sI ?_
 refine gb (fun k3 => ?_) (fun k3 => ?_)
 ·have k3 := of_decide_eq_true k3
  exact hbad _ _ [] fun h => by have := limO_iff.1 h.2; omega
 have k3 := of_decide_eq_false k3
 have k2 : limO limit = true := limO_iff.2 (by omega)
 clear hbad
 have hlim := limO_iff.1 k2
 have hnew : newS base = (⟨base, []⟩, 0) := by
  unfold newS at k1 ⊢
  split at k1
  ·rename_i h; rw [if_pos h]
  ·cases k1
 have hof : ofS base l limit = ofL limit ⟨base, []⟩ l := by rw [ofS, if_pos ⟨k1, k2⟩, hnew]
 rw [hnew] at hs1 ⊢
 rw [hof]
 clear hof hnew k1
 dsimp only at hs1 ⊢
 intros; refine gN ?_
 intros; refine gr 0 0 ?_; refine sJ c58r4.eq_1 ?_
 intros
 refine go_cut (fun e h => ∃ (s : Sg) (G' : Nat → Option Obj) (A' : Option Addr) (c' : Nat), (Gle G1 G' ∧ SB G' (.slice A' s.bytes.length c') s.bytes ∧ ofL limit ⟨base, []⟩ l = (s, 0)) ∧ h = ⟨G', [.reg 8 [.int .i64 s.base, .slice A' s.bytes.length c'], .reg 6 [.int .i64 0, .slice none 0 0]], []⟩) ?_ ?_
 ·(intros; try refine go_st ?_)
  refine go_loop (fun e h => ∃ (k : Nat) (s : Sg) (G' : Nat → Option Obj) (A' : Option Addr) (c' : Nat), (k ≤ l.length ∧ Gle G1 G' ∧ SB G' (.slice A' s.bytes.length c') s.bytes ∧ s.base = base ∧ s.bytes.length ≤ 4096 ∧ ofL limit ⟨base, []⟩ l = ofL limit s (l.drop k)) ∧ e 30 = .int .i64 k ∧ e 29 = .int .i64 l.length ∧ e 28 = .slice A l.length c ∧ e 2 = .int .i64 limit ∧ h = ⟨G', [.reg 8 [.int .i64 s.base, .slice A' s.bytes.length c'], .reg 6 [.int .i64 0, .slice none 0 0]], []⟩) (fun e h => l.length - iv (e 30)) ?_ ?_
  ·exact ⟨0, ⟨base, []⟩, G1, A1, c1, ⟨Nat.zero_le _, .refl _, hs1, rfl, by simp, rfl⟩, eE, eE, eE, eE, rfl⟩
  rintro e h ⟨k, s, G2, A2, c2, ⟨hk, hg2, hs2, hsb, hsl, hof⟩, e30, e29, e28, e2, rfl⟩
  refine go_keep [2, 28, 29, 30] ?_
  refine sJ4 @e2 @e28 @e29 @e30 ?_
  intros; refine gr 0 0 ?_; refine sJ c58r5.eq_1 ?_
  intros; refine gc ?_; refine sI ?_
  refine gb (fun ht => ?_) (fun ht => ?_)
  ·have ht : k < l.length := by have := of_decide_eq_true ht; omega
   have hw := inc_i k c (by omega) hm
   have hg02 := hg1.trans hg2
   obtain ⟨x, hx⟩ : ∃ x, l[k]? = some x := ⟨l[k], List.getElem?_eq_getElem (by omega)⟩
   have hA2 := hA.le hg02 (E' := BE G) fun _ _ h => h
   have hof2 : ofL limit s (l.drop k) = if (appS s x limit).2 = 0 then ofL limit (appS s x limit).1 (l.drop (k + 1)) else (noneS, (appS s x limit).2) := by
    obtain ⟨h1, h2⟩ := List.getElem?_eq_some_iff.1 hx
    rw [List.drop_eq_getElem_cons h1, h2, ofL]
   rw [hof2] at hof
   intros; refine gN ?_
   intros; refine gr 32 34 ?_; refine sJ c58r6.eq_1 ?_
   refine hA2.x_ld hx rfl rfl ?_
   rintro a1 ha1 cs hbe
   have hbe := BE.le hg02 hbe
   have happ := RAppend_ok s x limit _ cs G2 ⟨A2, c2, rfl, hs2, by rw [hsb]; exact hbi⟩ (by omega) hbe hli
   obtain ⟨B, d, rfl, -⟩ := hbe
   unfold cellH cellS at happ
   unfold cellH
   refine sI ?_
   intros; refine gr 34 41 ?_; refine sJ c58r7.eq_1 ?_
   refine (ownSE_d happ _ _).mono ?_
   rintro r h' ⟨G3, rfl, hg3, A3, c3, rfl, hs3⟩
   have hok := @appS_ok s x limit
   have hno := @appS_none s x limit
   generalize appS s x limit = q at hok hno hs3 hof
   obtain ⟨s3, er⟩ := q
   dsimp only at hok hno hs3 hof
   refine sI ?_
   intros; refine gr 41 42 ?_; refine sJ c58r8.eq_1 ?_
   intros; refine gc ?_; refine sI ?_
   refine gb (fun k3 => ?_) (fun k3 => ?_)
   ·have k3 := of_decide_eq_true k3
    intros; refine gr 43 45 ?_; refine sJ c58r9.eq_1 ?_
    intros; refine rV ?_; simp only [push_cast, Nat.reduceBEq]
    rw [hof, if_neg k3]
    exact noneS_seg
   ·have k3 : er = 0 := by simpa using k3
    subst k3
    obtain ⟨-, -, -, h4, h5⟩ := hok rfl
    have h5 : s3 = ⟨s.base, s.bytes ++ bytesB x⟩ := congrArg Prod.fst h5
    rw [if_pos rfl] at hof
    have hl3 : s3.bytes.length ≤ 4096 := by rw [h5]; simp only [List.length_append]; omega
    have hb3 : s3.base = base := by rw [h5]; exact hsb
    intros; refine gN ?_
    refine go_ghost (ghost_sub (L' := [.reg 8 [.int .i64 s3.base, .slice A3 s3.bytes.length c3], .reg 6 [.int .i64 0, .slice none 0 0]]) (.cons _ (List.Sublist.refl _))) ?_
    intros; refine gr 45 46 ?_; refine sJ2 c58r10.eq_1 @hw ?_
    (intros; try refine go_st ?_)
    refine go_l ⟨⟨k + 1, s3, G3, A3, c3, ⟨by omega, hg2.trans hg3, hs3, hb3, hl3, hof⟩, eE, eE, eE, eE, rfl⟩, ?_⟩
    refine sI ?_
    omega
  ·have ht : k = l.length := by have := of_decide_eq_false ht; omega
   subst ht
   rw [List.drop_length, ofL] at hof
   refine go_exit ?_
   refine sI ?_
   intros; refine gN ?_
   exact go_l ⟨s, G2, A2, c2, ⟨hg2, hs2, hof⟩, rfl⟩
 rintro e h ⟨s, G2, A2, c2, ⟨hg2, hs2, hof⟩, rfl⟩
 intros
 intros; refine gr 46 47 ?_; refine sJ c58r11.eq_1 ?_
 intros; refine rV ?_; simp only [push_cast, Nat.reduceBEq]
 rw [hof]
 exact ⟨A2, c2, rfl, hs2⟩
theorem RCut_ok (s : Sg) (off : Int) (cs : List Value) (G : Nat → Option Obj) (hs : SE G s cs) (hb : s.bytes.length ≤ 1000000) (ho : I64 off) : FnO Tryz.prog 63 #[.agg cs.toArray, .int .i64 off] G [] (fun _ L' r => OwnSg (cutS s off) L' r) := by
 have hscan := RScan_ok s cs G hs hb
 have hs0 := hs
 obtain ⟨A, c, rfl, hl, hi⟩ := hs
 refine F63.fnO (by simp) noRegs_nil (go_of ?_)
 obtain ⟨rr, hsc⟩ := scan_spec s
 have hcut : cutS s off = ⟨s.base, s.bytes.take (allB ((scanB s).takeWhile (cutP off))).length⟩ := rfl
 obtain ⟨_, _, hcc, hlc, -, -⟩ := id hl
 cases hcc
 unfold c63
 unfold cellS at hscan hs0 ⊢
 intros; refine gr 0 0 ?_; refine sJ c63r0.eq_1 ?_
 intros; refine gr 10 15 ?_; refine sJ c63r1.eq_1 ?_
 refine (hscan _ _).mono ?_
 rintro r h' ⟨G1, L', rfl, hg1, u, zc, rfl, hzc, rfl⟩
 generalize scanB s = bs at *
 have hlen := hsc.len
 refine sI ?_
 intros; try refine go_seq ?_
 refine go_gx (gx_slv_at [] _ (by decide) hzc) ?_
 rintro h' ⟨G2, rfl, hg2, A2, c2, rfl, hc2, hm2, hA2⟩
 have hg02 := hg1.trans hg2
 intros; refine gr 0 0 ?_; refine sJ c63r2.eq_1 ?_
 intros; refine gr 0 0 ?_; refine sJ c63r3.eq_1 ?_
 intros
 refine go_cut (fun e h => ∃ k : Nat, bs.takeWhile (cutP off) = bs.take k ∧ e 7 = .int .i64 (((allB (bs.take k)).length : Nat) : Int) ∧ h = ⟨G2, [.reg 4 [.int .i64 0, .slice none 0 0], .reg 2 [.int .i64 s.base, .slice A s.bytes.length c]], []⟩) ?_ ?_
 ·(intros; try refine go_st ?_)
  refine go_loop (fun e h => ∃ k : Nat, (k ≤ bs.length ∧ ∀ y ∈ bs.take k, cutP off y = true) ∧ e 17 = .int .i64 k ∧ e 16 = .int .i64 bs.length ∧ e 15 = .slice A2 bs.length c2 ∧ e 7 = .int .i64 (((allB (bs.take k)).length : Nat) : Int) ∧ e 1 = .int .i64 off ∧ h = ⟨G2, [.reg 4 [.int .i64 0, .slice none 0 0], .reg 2 [.int .i64 s.base, .slice A s.bytes.length c]], []⟩) (fun e h => bs.length - iv (e 17)) ?_ ?_
  ·exact ⟨0, ⟨Nat.zero_le _, by simp⟩, eE, eE, eE, rfl, eE, rfl⟩
  rintro e h ⟨k, ⟨hk, hall⟩, e17, e16, e15, e7, e1, rfl⟩
  refine go_keep [1, 7, 15, 16, 17] ?_
  refine sJ5 @e1 @e7 @e15 @e16 @e17 ?_
  intros; refine gr 0 0 ?_; refine sJ c63r4.eq_1 ?_
  intros; refine gc ?_; refine sI ?_
  refine gb (fun ht => ?_) (fun ht => ?_)
  ·have ht : k < bs.length := by have := of_decide_eq_true ht; omega
   have hw := inc_i k c2 (by omega) hm2
   obtain ⟨x, hx⟩ : ∃ x, bs[k]? = some x := ⟨bs[k], List.getElem?_eq_getElem (by omega)⟩
   have hx0 := hsc.ok x (List.mem_of_getElem? hx)
   have hln : (allB (bs.take (k + 1))).length = (allB (bs.take k)).length + (bytesB x).length := by rw [allB_take hx, List.length_append]
   have hle := allB_take_le bs (k + 1)
   have hw2 : IntKind.i64.wrap ((((allB (bs.take k)).length : Nat) : Int) + (((bytesB x).length : Nat) : Int)) = (((allB (bs.take (k + 1))).length : Nat) : Int) := by rw [w64_id] <;> omega
   intros; refine gN ?_
   intros; refine gr 19 21 ?_; refine sJ c63r5.eq_1 ?_
   refine hA2.x_ld hx rfl rfl ?_
   rintro a1 ha1 cs hbe
   have hsz := RSize_ok x cs G2 (BE.le hg2 hbe)
   rw [sizeB, putB_0 hx0] at hsz
   dsimp only at hsz
   obtain ⟨B, d, rfl, -⟩ := hbe
   unfold cellH at hsz ⊢
   refine sI ?_
   intros; refine gr 22 24 ?_; refine sJ c63r6.eq_1 ?_
   intros; refine gc ?_; refine sI ?_
   refine gb (fun h1 => ?_) (fun h1 => ?_)
   ·have h1 := of_decide_eq_true h1
    refine go_ghost (ghost_sub (.cons _ (List.Sublist.refl _))) ?_
    refine go_exit ?_
    refine sI ?_
    exact go_l ⟨k, tw_at hall hx (decide_eq_false (by omega)), eE, rfl⟩
   ·have h1 := of_decide_eq_false h1
    have hcp : cutP off x = true := decide_eq_true (by omega)
    intros; refine gN ?_
    intros; refine gr 25 29 ?_; refine sJ c63r7.eq_1 ?_
    refine (hsz _ _).mono ?_; rintro _ _ ⟨rfl, rfl⟩; refine sJ @hw2 ?_
    intros; refine gN ?_
    refine go_ghost (ghost_sub (.cons _ (List.Sublist.refl _))) ?_
    intros; refine gr 29 30 ?_; refine sJ2 c63r8.eq_1 @hw ?_
    (intros; try refine go_st ?_)
    refine go_l ⟨⟨k + 1, ⟨by omega, fun y hy => ?_⟩, eE, eE, eE, eE, eE, rfl⟩, ?_⟩
    ·rw [List.take_add_one, hx] at hy
     rcases List.mem_append.1 hy with h | h
     ·exact hall y h
     ·simp at h; subst h; exact hcp
    ·refine sI ?_
     omega
  ·have ht : k = bs.length := by have := of_decide_eq_false ht; omega
   subst ht
   refine go_exit ?_
   refine sI ?_
   exact go_l ⟨bs.length, by rw [List.take_length] at hall ⊢; exact tw_all hall, eE, rfl⟩
 rintro e h ⟨k, htw, e7, rfl⟩
 have hle := allB_take_le bs k
 have hpre := SlV.pre (allB (bs.take k)).length (SB.le hl hg02) (by omega)
 refine go_keep [7] ?_
 refine sJ @e7 ?_
 intros
 (intros; try refine go_st ?_); refine go_y _ (List.Sublist.refl _) (by decide) ?_; refine sJ c63r9.eq_1 ?_
 refine ⟨by omega, ?_⟩
 refine (ownK_sl (Copy_ok _ _ G2 hpre (by rw [List.length_take]; omega)) _ _).mono ?_
 rintro r h' ⟨G4, L', rfl, hg4, A4, c4, zc4, rfl, -, hzc4, rfl⟩
 refine ⟨grow_L hg4 (.cons _ (List.Sublist.refl _)), ?_⟩
 refine sI ?_
 refine sJ c63r10.eq_1 ?_
 (intros; try refine go_st ?_)
 refine go_ret (retQ_o _ rfl (.cons_cons _ (List.nil_sublist _)) (noRegs_row noRegs_nil) ?_)
 rw [hcut, htw]
 exact ⟨_, zc4, rfl, rfl, hzc4⟩
theorem F35 : Fun Tryz.prog 35 9 v35 c35 o35 := Fun.mkA Tryz.func35 Tryz.ntmps35
theorem F39 : Fun Tryz.prog 39 17 v39 c39 o39 := Fun.mkA Tryz.func39 Tryz.ntmps39
theorem F11 : Fun Tryz.prog 11 73 v11 c11 o11 := Fun.mkA Tryz.func11 Tryz.ntmps11
theorem F41 : Fun Tryz.prog 41 23 v41 c41 o41 := Fun.mkA Tryz.func41 Tryz.ntmps41
theorem F62 : Fun Tryz.prog 62 15 v62 c62 o62 := Fun.mkA Tryz.func62 Tryz.ntmps62
theorem lin_ok (n : Int) (G : Nat → Option Obj) : FnS Tryz.prog 35 #[.int .i64 n] G (.bool (inO n)) := by
 refine F35.fnS (by simp) (go_of ?_)
 unfold c35
 intros; refine gr 0 0 ?_; refine sJ c35r0.eq_1 ?_
 intros; refine gr 3 9 ?_; refine sJ c35r1.eq_1 ?_
 refine gd (fun h => ?_) (fun h => ?_)
 ·have h := of_decide_eq_true h
  refine sI ?_
  intros; refine rV ?_; simp only [push_cast, Nat.reduceBEq]
  rw [inO, decide_eq_true h, Bool.true_and]
 ·have h := of_decide_eq_false h
  refine sI ?_
  intros; refine rV ?_; simp only [push_cast, Nat.reduceBEq]
  rw [inO, decide_eq_false h, Bool.false_and]
theorem rfol_ok (s t : Sg) (cs ds : List Value) (G : Nat → Option Obj) (hs : SE G s cs) (ht : SE G t ds) (hb : s.bytes.length ≤ 1000000) : FnS Tryz.prog 39 #[.agg cs.toArray, .agg ds.toArray] G (.bool (folB s t)) := by
 have hend := REnd_ok s cs G hs hb
 obtain ⟨A, c, rfl, hl, hi⟩ := hs
 obtain ⟨B, d, rfl, hm, hj⟩ := ht
 refine F39.fnS (by simp) (go_of ?_)
 unfold c39
 unfold cellS at hend ⊢
 intros; refine gr 0 0 ?_; refine sJ c39r0.eq_1 ?_
 (intros; try refine go_st ?_); refine go_x _ (List.Sublist.refl _) (by decide) ?_; refine sJ c39r1.eq_1 ?_
 refine gx (fun k1 => ?_) (fun k1 => ?_)
 ·refine sI ?_
  refine (hend _ _).mono ?_; rintro _ _ ⟨rfl, rfl⟩; refine sI ?_
  intros; refine rV ?_; simp only [push_cast, Nat.reduceBEq]
  rw [folB, k1, Bool.true_and]
 ·refine sI ?_
  intros; refine rV ?_; simp only [push_cast, Nat.reduceBEq]
  rw [folB, k1, Bool.false_and]
theorem mayO_no {a b : Int} (h : a < 256 ∨ 4096 < a ∨ inO b = false) : mayO a b = false := by
 have : ¬ mayO a b = true := fun hh => by
  have := mayO_iff.1 hh
  rcases h with h | h | h
  ·omega
  ·omega
  ·rw [h] at this; exact absurd this.2 (by simp)
 simpa using this
theorem rend_ok (l : Lg) (cs : List Value) (G : Nat → Option Obj) (hl : LE G l cs) (hb : smL l.segs) : FnS Tryz.prog 41 #[.agg cs.toArray] G (.int .i64 (maxE l.start l.segs)) := by
 obtain ⟨A, c, rfl, ⟨A0, c0, he, hc, hm, hA⟩, hi, hj⟩ := hl
 cases he
 refine F41.fnS (by simp) (go_of ?_)
 unfold c41 cellL
 intros; refine gr 0 0 ?_; refine sJ c41r0.eq_1 ?_
 intros; refine gr 6 7 ?_; refine sJ c41r1.eq_1 ?_
 intros; refine gr 0 0 ?_; refine sJ c41r2.eq_1 ?_
 (intros; try refine go_st ?_)
 refine go_loop (fun e h => ∃ k : Nat, k ≤ l.segs.length ∧ e 4 = .int .i64 k ∧ e 3 = .int .i64 (maxE l.start (l.segs.take k)) ∧ h = ⟨G, [.reg 1 [.int .i64 l.limit, .int .i64 l.start, .slice A l.segs.length c]], []⟩) (fun e h => l.segs.length - iv (e 4)) ?_ ?_
 ·exact ⟨0, Nat.zero_le _, eE, by refine sI ?_; rfl, rfl⟩
 rintro e h ⟨k, hk, e4, e3, rfl⟩
 refine go_keep [3, 4] ?_
 refine sJ2 @e3 @e4 ?_
 intros; refine gr 7 11 ?_; refine sJ c41r3.eq_1 ?_
 intros; refine gc ?_; refine sI ?_
 refine gb (fun ht => ?_) (fun ht => ?_)
 ·have ht : k < l.segs.length := by have := of_decide_eq_true ht; omega
  have hw := inc_i k c (by omega) hm
  obtain ⟨s, hs⟩ : ∃ s, l.segs[k]? = some s := ⟨l.segs[k], List.getElem?_eq_getElem (by omega)⟩
  have hbs := hb s (List.mem_of_getElem? hs)
  have hmx : maxE l.start (l.segs.take (k + 1)) = max (maxE l.start (l.segs.take k)) (endB s) := by rw [take_snoc' hs, maxE_app]; rfl
  intros; refine gN ?_
  intros; refine gr 14 22 ?_; refine sJ c41r4.eq_1 ?_
  refine hA.x_ld hs rfl rfl ?_
  rintro a1 ha1 cs hse
  have hend := REnd_ok s cs G hse (by omega)
  obtain ⟨B, d, rfl, -⟩ := hse
  unfold cellS at hend ⊢
  refine sI ?_
  refine (hend _ _).mono ?_; rintro _ _ ⟨rfl, rfl⟩; refine sI ?_
  intros; refine gr 12 14 ?_; refine sJ2 c41r5.eq_1 @hw ?_
  (intros; try refine go_st ?_)
  refine go_l ⟨⟨k + 1, by omega, eE, (eJ @hmx), rfl⟩, ?_⟩
  refine sI ?_
  omega
 ·have ht : k = l.segs.length := by have := of_decide_eq_false ht; omega
  subst ht
  rw [List.take_length] at e3 ⊢
  refine go_exit ?_
  refine sI ?_
  intros; refine gr 22 23 ?_; refine sJ c41r6.eq_1 ?_
  intros; refine rV ?_; simp only [push_cast, Nat.reduceBEq]
theorem RChkL_ok (l : Lg) (cs : List Value) (G : Nat → Option Obj) (hl : LE G l cs) (hb : smL l.segs) : FnS Tryz.prog 11 #[.agg cs.toArray] G (.int .i64 (chkL l)) := by
 obtain ⟨A, c, rfl, hsl, hi, hj⟩ := hl
 obtain ⟨A0, c0, he, hc, hmx, hA⟩ := hsl
 cases he
 refine F11.fnS (by simp) (go_of ?_)
 unfold c11 cellL
 have hbad : ∀ (fr : List Td) (e : Env), ¬ (mayO l.limit l.start = true ∧ l.segs ≠ []) → go none Tryz.prog 73 v11.1 v11.2 (retQ o11 fun v h => v = .int .i64 (chkL l)) (Td.s ((SC.reg false c11r2).seq .ret) :: fr) e ⟨G, [.reg 1 [.int .i64 l.limit, .int .i64 l.start, .slice A l.segs.length c]], []⟩ := fun fr e h => by
  intros; refine gr 0 0 ?_; refine sJ c11r2.eq_1 ?_
  intros; refine rV ?_; simp only [push_cast, Nat.reduceBEq]
  rw [chkL, if_neg fun hh => h ⟨hh.1, hh.2.1⟩]
 intros; refine gr 0 0 ?_; refine sJ c11r0.eq_1 ?_
 intros; refine gr 5 23 ?_; refine sJ c11r1.eq_1 ?_
 refine gd (fun k1 => ?_) (fun k1 => ?_)
 ·refine sI ?_
  intros; refine gc ?_; refine sI ?_
  exact hbad _ _ fun h => by rw [mayO_no (.inl (of_decide_eq_true k1))] at h; cases h.1
 have k1 := of_decide_eq_false k1
 refine sI ?_
 refine gd (fun k2 => ?_) (fun k2 => ?_)
 ·refine sI ?_
  intros; refine gc ?_; refine sI ?_
  exact hbad _ _ fun h => by rw [mayO_no (.inr (.inl (of_decide_eq_true k2)))] at h; cases h.1
 have k2 := of_decide_eq_false k2
 refine sI ?_
 refine (lin_ok _ _ _ _).mono ?_; rintro _ _ ⟨rfl, rfl⟩; refine sI ?_
 refine gd (fun k3 => ?_) (fun k3 => ?_)
 ·have k3 : inO l.start = false := by simpa using k3
  refine sI ?_
  intros; refine gc ?_; refine sI ?_
  exact hbad _ _ fun h => by rw [mayO_no (.inr (.inr k3))] at h; cases h.1
 have k3 : inO l.start = true := by simpa using k3
 have km : mayO l.limit l.start = true := mayO_iff.2 ⟨⟨by omega, by omega⟩, k3⟩
 refine sI ?_
 intros; refine gc ?_; refine sI ?_
 refine gb (fun k4 => ?_) (fun k4 => ?_)
 ·have k4 : l.segs = [] := List.eq_nil_of_length_eq_zero (by have := of_decide_eq_true k4; omega)
  exact hbad _ _ fun h => h.2 k4
 have k4 : l.segs ≠ [] := fun h => by rw [h] at k4; simp at k4
 clear hbad
 intros; refine gN ?_
 intros; try refine go_seq ?_
 refine go_cut (fun e h => okS l.limit none l.segs ∧ h = ⟨G, [.reg 1 [.int .i64 l.limit, .int .i64 l.start, .slice A l.segs.length c]], []⟩) ?_ ?_
 ·intros; refine gr 0 0 ?_; refine sJ c11r3.eq_1 ?_
  (intros; try refine go_st ?_)
  refine go_loop (fun e h => ∃ k : Nat, (k ≤ l.segs.length ∧ okS l.limit none (l.segs.take k)) ∧ e 3 = .int .i64 k ∧ h = ⟨G, [.reg 1 [.int .i64 l.limit, .int .i64 l.start, .slice A l.segs.length c]], []⟩) (fun e h => l.segs.length - iv (e 3)) ?_ ?_
  ·exact ⟨0, ⟨Nat.zero_le _, trivial⟩, eE, rfl⟩
  rintro e h ⟨k, ⟨hk, hok⟩, e3, rfl⟩
  refine go_keep [3] ?_
  refine sJ @e3 ?_
  intros; refine gr 24 28 ?_; refine sJ c11r4.eq_1 ?_
  intros; refine gc ?_; refine sI ?_
  refine gb (fun ht => ?_) (fun ht => ?_)
  ·have ht : k < l.segs.length := by have := of_decide_eq_true ht; omega
   have hw := inc_i k c (by omega) hmx
   obtain ⟨s, hs⟩ : ∃ s, l.segs[k]? = some s := ⟨l.segs[k], List.getElem?_eq_getElem (by omega)⟩
   have hbs := hb s (List.mem_of_getElem? hs)
   have hno : ∀ (fr : List Td) (e : Env) (X : List Kx.Item), ¬ fitS l.limit (endP none (l.segs.take k)) s → go none Tryz.prog 73 v11.1 v11.2 (retQ o11 fun v h => v = .int .i64 (chkL l)) (Td.s ((SC.reg false c11r6).seq .ret) :: fr) e ⟨G, X, []⟩ := fun fr e X hn => by
    intros; refine gr 0 0 ?_; refine sJ c11r6.eq_1 ?_
    intros; refine rV ?_; simp only [push_cast, Nat.reduceBEq]
    rw [chkL_no hs hn]
   have hnx : fitS l.limit (endP none (l.segs.take k)) s → okS l.limit none (l.segs.take (k + 1)) := fun h => (okS_take hs).2 ⟨hok, h⟩
   intros; refine gN ?_
   (intros; try refine go_st ?_); refine go_x _ (List.Sublist.refl _) (by decide) ?_; refine sJ c11r5.eq_1 ?_
   refine hA.y_ld hs rfl rfl ?_
   rintro a1 ha1 cs hse
   have hwh := RWhole_ok s cs G hse (by omega)
   obtain ⟨B, d, rfl, hsb, hsi⟩ := hse
   unfold cellS at hwh ⊢
   refine sI ?_
   refine (hwh _ _).mono ?_; rintro _ _ ⟨rfl, rfl⟩; refine sI ?_
   refine gx (fun k5 => ?_) (fun k5 => ?_)
   ·have k5 : wholeB s = false := by simpa using k5
    refine sI ?_
    intros; refine gc ?_; refine sI ?_
    exact hno _ _ _ fun h => by have := h.1.1; rw [k5] at this; cases this
   have k5 : wholeB s = true := by simpa using k5
   refine sI ?_
   refine y_lg (k := k) (Pu := fun u => ∃ B d, u = .slice B s.bytes.length d) hA hs rfl rfl (fun cs h => by obtain ⟨B, d, rfl, -⟩ := h; exact ⟨_, rfl, B, d, rfl⟩) ?_
   rintro a2 ha2 u ⟨B2, d2, rfl⟩
   refine sI ?_
   refine gx (fun k6 => ?_) (fun k6 => ?_)
   ·have k6 := of_decide_eq_true k6
    refine sI ?_
    intros; refine gc ?_; refine sI ?_
    exact hno _ _ _ fun h => by have := h.1.2; omega
   have k6 := of_decide_eq_false k6
   refine sI ?_
   refine gx (fun k7 => ?_) (fun k7 => ?_)
   ·have k7 : 0 < k := by have := of_decide_eq_true k7; omega
    have hw1 : IntKind.i64.wrap ((k : Int) - 1) = (k : Int) - 1 := by unfold maxLen at hmx; rw [w64_id] <;> omega
    obtain ⟨p, hp⟩ : ∃ p, l.segs[k - 1]? = some p := ⟨l.segs[k - 1], List.getElem?_eq_getElem (by omega)⟩
    have hbp := hb p (List.mem_of_getElem? hp)
    have hep := endP_pred k7 hp
    refine sJ @hw1 ?_
    refine hA.y_ld hp (by omega) rfl ?_
    rintro a3 ha3 cs3 hpe
    have hpe0 := hpe
    obtain ⟨B3, d3, rfl, -⟩ := hpe
    unfold cellS at hpe0 ⊢
    refine sI ?_
    refine hA.y_ld hs rfl rfl ?_
    rintro a4 ha4 cs4 hse4
    have hfo := rfol_ok p s _ cs4 G hpe0 hse4 (by omega)
    obtain ⟨B4, d4, rfl, -⟩ := hse4
    unfold cellS at hfo ⊢
    refine sI ?_
    refine (hfo _ _).mono ?_; rintro _ _ ⟨rfl, rfl⟩; refine sI ?_
    intros; refine gc ?_; refine sI ?_
    refine gb (fun k8 => ?_) (fun k8 => ?_)
    ·have k8 : folB p s = false := by simpa using k8
     exact hno _ _ _ fun h => by have := h.2 p hep; rw [k8] at this; cases this
    ·have k8 : folB p s = true := by simpa using k8
     intros; refine gN ?_
     intros; refine gr 29 31 ?_; refine sJ2 c11r7.eq_1 @hw ?_
     (intros; try refine go_st ?_)
     refine go_l ⟨⟨k + 1, ⟨by omega, hnx ⟨⟨k5, by omega⟩, fun a ha => by rw [hep] at ha; cases ha; exact k8⟩⟩, eE, rfl⟩, ?_⟩
     refine sI ?_
     omega
   ·have k7 : k = 0 := by have := of_decide_eq_false k7; omega
    refine sI ?_
    intros; refine gc ?_; refine sI ?_
    intros; refine gN ?_
    intros; refine gr 29 31 ?_; refine sJ2 c11r7.eq_1 @hw ?_
    (intros; try refine go_st ?_)
    refine go_l ⟨⟨k + 1, ⟨by omega, hnx ⟨⟨k5, by omega⟩, fun a ha => by rw [k7] at ha; cases ha⟩⟩, eE, rfl⟩, ?_⟩
    refine sI ?_
    omega
  ·have ht : k = l.segs.length := by have := of_decide_eq_false ht; omega
   subst ht
   rw [List.take_length] at hok
   refine go_exit ?_
   refine sI ?_
   intros; refine gN ?_
   exact go_l ⟨hok, rfl⟩
 rintro e h ⟨hok, rfl⟩
 refine go_keep [] ?_
 intros
 intros; refine gr 70 72 ?_; refine sJ c11r8.eq_1 ?_
 intros; refine gc ?_; refine sI ?_
 refine gb (fun k5 => ?_) (fun k5 => ?_)
 ·have k5 := of_decide_eq_true k5
  intros; refine gr 0 0 ?_; refine sJ c11r9.eq_1 ?_
  intros; refine rV ?_; simp only [push_cast, Nat.reduceBEq]
  rw [chkL, if_pos ⟨km, k4, hok⟩, if_pos (by omega)]
 ·have k5 := of_decide_eq_false k5
  intros; refine gN ?_
  intros; refine gr 0 0 ?_; refine sJ c11r10.eq_1 ?_
  intros; refine rV ?_; simp only [push_cast, Nat.reduceBEq]
  rw [chkL, if_pos ⟨km, k4, hok⟩, if_neg (by omega)]
theorem rbetw_ok (l : Lg) (off : Int) (cs : List Value) (G : Nat → Option Obj) (hl : LE G l cs) (hb : smL l.segs) (hk : chkL l = 0) : FnS Tryz.prog 62 #[.agg cs.toArray, .int .i64 off] G (.bool (betw l off)) := by
 have hend := rend_ok l cs G hl hb
 rw [maxE_is (chkL_0 hk).2.2.1] at hend
 obtain ⟨A, c, rfl, hsl, hi, hj⟩ := hl
 refine F62.fnS (by simp) (go_of ?_)
 unfold c62
 unfold cellL at hend ⊢
 intros; refine gr 0 0 ?_; refine sJ c62r0.eq_1 ?_
 intros; refine gr 5 15 ?_; refine sJ c62r1.eq_1 ?_
 refine gd (fun k1 => ?_) (fun k1 => ?_)
 ·refine sI ?_
  refine (hend _ _).mono ?_; rintro _ _ ⟨rfl, rfl⟩; refine sI ?_
  intros; refine rV ?_; simp only [push_cast, Nat.reduceBEq]
  rw [betw, k1, Bool.true_and]
 ·refine sI ?_
  intros; refine rV ?_; simp only [push_cast, Nat.reduceBEq]
  rw [betw, k1, Bool.false_and]
theorem F57 : Fun Tryz.prog 57 19 v57 c57 o57 := Fun.mkA Tryz.func57 Tryz.ntmps57
theorem F20 : Fun Tryz.prog 20 86 v20 c20 o20 := Fun.mkA Tryz.func20 Tryz.ntmps20
set_option maxHeartbeats 1000000 in
theorem rwith_ok (l : Lg) (k : Nat) (s : Sg) (cs ds : List Value) (G : Nat → Option Obj) (hl : LE G l cs) (hs : SE G s ds) (hk : k < l.segs.length) (hm : l.segs.length ≤ 1000) :
  FnD Tryz.prog 57 #[.agg cs.toArray, .int .i64 (k : Int), .agg ds.toArray] G (LgV ⟨l.limit, l.start, l.segs.set k s⟩) := by
 obtain ⟨A, c, rfl, hsl, hi, hj⟩ := hl
 obtain ⟨B, d, rfl, hsb, hsi⟩ := id hs
 have hlk : (l.segs.set k s).length = l.segs.length := List.length_set
 refine F57.fnD (by simp) (go_of ?_)
 unfold c57 cellL
 unfold cellS at hs ⊢
 intros; refine gr 0 0 ?_; refine sJ c57r0.eq_1 ?_
 intros; refine gr 8 12 ?_; refine sJ c57r1.eq_1 ?_
 intro bk hbk
 refine apX_v (.inr ⟨⟨_, rfl⟩, rfl, rfl, rfl, rfl⟩) hsl rfl SE1 ⟨by omega, by unfold maxLen; omega⟩ fun ys A9 c9 hcs => ?_
 simp only [Nat.zero_add]
 refine sI ?_
 have hnew := hcs.set (k := k) (x := s) (cs := [.int .i64 s.base, .slice B s.bytes.length d]) hk hs rfl
 intros
 intros; try refine go_seq ?_
 refine go_gx (gx_know (v := .slice A9 l.segs.length c9) (.head _) (by omega)) ?_
 rintro h' ⟨rfl, g, c8, hA9, -, -⟩
 cases hA9
 intros; refine gr 12 16 ?_; refine sJ c57r2.eq_1 ?_
 refine ⟨by omega, _, rfl, ?_⟩
 rw [add_off, Nat.zero_add]
 refine stX_row [] _ rfl (by have := hcs.len; simp at this ⊢; omega) ⟨rfl, rfl⟩ ?_
 refine sI ?_
 intros; refine gr 16 17 ?_; refine sJ c57r3.eq_1 ?_
 intros
 intros; try refine go_seq ?_
 refine go_gx (gx_slv_at [] _ (by decide) hnew) ?_
 rintro h' ⟨G5, rfl, hg5, hv5⟩
 intros; refine gr 18 19 ?_; refine sJ c57r4.eq_1 ?_
 intros; refine rV ?_; simp only [push_cast, Nat.reduceBEq]
 exact ⟨_, rfl, some ⟨g, 0, none⟩, c9, by simp only [cellL, hlk], by dsimp only; rw [hlk]; exact hv5.le (.refl _) fun _ _ h => SE.le hg5 h, hi, hj⟩
theorem set_last {α : Type} {l : List α} {y : α} (h : 0 < l.length) : l.set (l.length - 1) y = l.take (l.length - 1) ++ [y] := by
 rw [List.set_eq_take_append_cons_drop, if_pos (by omega), List.drop_eq_nil_of_le (by omega)]
set_option maxHeartbeats 1000000 in
theorem rapp_ok (l : Lg) (x : Batch) (cs ds : List Value) (G : Nat → Option Obj) (hl : LE G l cs) (hb : smL l.segs) (hm : l.segs.length ≤ 900) (hx : BE G x ds) :
  FnD Tryz.prog 20 #[.agg cs.toArray, .agg ds.toArray] G (LgR (appL l x)) := by
 have hl0 := hl
 have hx0 := hx
 have hchk := RChkL_ok l cs G hl hb
 have hend := rend_ok l cs G hl hb
 have hbc := RBCheck_ok x ds G hx
 have hsz := RSize_ok x ds G hx
 obtain ⟨A, c, rfl, hsl, hi, hj⟩ := hl
 have hsl0 := hsl
 obtain ⟨A0, c0, he, hc, hmx, hA⟩ := hsl
 cases he
 obtain ⟨B, d, rfl, -⟩ := hx
 refine F20.fnD (by simp) (go_of ?_)
 unfold c20
 unfold cellL at hchk hend hl0 ⊢
 unfold cellH at hbc hsz hx0 ⊢
 intros; refine gr 0 0 ?_; refine sJ c20r0.eq_1 ?_
 intros; refine gr 14 16 ?_; refine sJ c20r1.eq_1 ?_
 refine (hchk _ _).mono ?_; rintro _ _ ⟨rfl, rfl⟩; refine sI ?_
 intros; refine gr 16 17 ?_; refine sJ c20r2.eq_1 ?_
 intros; refine gc ?_; refine sI ?_
 refine gb (fun k1 => ?_) (fun k1 => ?_)
 ·have k1 := of_decide_eq_true k1
  intros; refine gr 18 20 ?_; refine sJ c20r3.eq_1 ?_
  intros; refine rV ?_; simp only [push_cast, Nat.reduceBEq]
  rw [appL, if_neg k1]
  exact noneL_r
 have k0 : chkL l = 0 := by simpa using k1
 intros; refine gN ?_
 intros; refine gr 20 22 ?_; refine sJ c20r4.eq_1 ?_
 refine (hbc _ _).mono ?_; rintro _ _ ⟨rfl, rfl⟩; refine sI ?_
 intros; refine gr 22 23 ?_; refine sJ c20r5.eq_1 ?_
 intros; refine gc ?_; refine sI ?_
 refine gb (fun k1 => ?_) (fun k1 => ?_)
 ·have k1 := of_decide_eq_true k1
  intros; refine gr 24 26 ?_; refine sJ c20r6.eq_1 ?_
  intros; refine rV ?_; simp only [push_cast, Nat.reduceBEq]
  rw [appL, if_pos k0, if_neg k1]
  exact noneL_r
 have k1 : errB x = 0 := by simpa using k1
 obtain ⟨c1, c2, c3, c4⟩ := chkL_0 k0
 obtain ⟨s, e1, e2, e3, e4, e5⟩ := log_last k0
 have h0 : 0 < l.segs.length := List.length_pos_iff.2 c2
 have hz : sizeB x = (bytesB x).length := by rw [sizeB, putB_0 k1]
 rw [hz] at hsz
 rw [maxE_is c3] at hend
 have hlim := mayO_iff.1 c1
 intros; refine gN ?_
 (intros; try refine go_st ?_); refine go_x _ (List.Sublist.refl _) (by decide) ?_; refine sJ c20r7.eq_1 ?_
 refine (hend _ _).mono ?_; rintro _ _ ⟨rfl, rfl⟩; refine sI ?_
 intros; refine gc ?_; refine sI ?_
 refine gb (fun k2 => ?_) (fun k2 => ?_)
 ·have k2 := of_decide_eq_true k2
  intros; refine gr 31 32 ?_; refine sJ c20r8.eq_1 ?_
  intros; refine rV ?_; simp only [push_cast, Nat.reduceBEq]
  rw [appL, if_pos k0, if_pos k1, if_pos k2]
  exact noneL_r
 have k2 := of_decide_eq_false k2
 intros; refine gN ?_
 (intros; try refine go_st ?_); refine go_x _ (List.Sublist.refl _) (by decide) ?_; refine sJ c20r9.eq_1 ?_
 refine (hsz _ _).mono ?_; rintro _ _ ⟨rfl, rfl⟩; refine sI ?_
 intros; refine gc ?_; refine sI ?_
 refine gb (fun k3 => ?_) (fun k3 => ?_)
 ·have k3 := of_decide_eq_true k3
  intros; refine gr 37 38 ?_; refine sJ c20r10.eq_1 ?_
  intros; refine rV ?_; simp only [push_cast, Nat.reduceBEq]
  rw [appL, if_pos k0, if_pos k1, if_neg k2, if_pos k3]
  exact noneL_r
 have k3 := of_decide_eq_false k3
 have hwl : IntKind.i64.wrap ((l.segs.length : Int) - 1) = ((l.segs.length - 1 : Nat) : Int) := by rw [w64_id] <;> omega
 obtain ⟨K, hK⟩ : ∃ K, K = l.segs.length - 1 := ⟨_, rfl⟩
 rw [← hK] at hwl e1
 have hxi : I64 x.base := by obtain ⟨_, _, _, _, h, -⟩ := hx0; exact h
 have hsi := sl_i hA s (List.mem_of_getElem? e1)
 have hapb : (appS s x l.limit).2 = 0 → (appS s x l.limit).1.base = s.base := fun h => by
  obtain ⟨-, -, -, -, hh⟩ := appS_ok h
  rw [hh]
 have hap : appL l x = if (appS s x l.limit).2 = 0 then (⟨l.limit, l.start, l.segs.set K (appS s x l.limit).1⟩, 0) else if l.segs.length = 256 then (noneL, 2) else (⟨l.limit, l.start, l.segs ++ [⟨x.base, bytesB x⟩]⟩, 0) := by
  rw [appL, if_pos k0, if_pos k1, if_neg k2, if_neg k3, e3, hK, set_last h0]
 rw [hap]
 have hof := of_one (limO_of c1) k1 (show ((bytesB x).length : Int) ≤ l.limit by omega)
 intros; refine gN ?_
 intros; refine gr 39 42 ?_; refine sJ2 c20r11.eq_1 @hwl ?_
 intros
 intros; try refine go_seq ?_
 refine go_cut (fun e h => ∃ (G' : Nat → Option Obj) (b9 : Nat) (A3 : Option Addr) (c3 : Nat), (Gle G G' ∧ SB G' (.slice A3 (appS s x l.limit).1.bytes.length c3) (appS s x l.limit).1.bytes) ∧ e 8 = .int .i64 (K : Int) ∧ e 9 = .pointer (some ⟨b9, 0, none⟩) ∧ e 10 = .int .i64 (appS s x l.limit).2 ∧ h = ⟨G', [.blk b9 [.int .i64 (appS s x l.limit).1.base, .slice A3 (appS s x l.limit).1.bytes.length c3], .reg 4 [.int .i64 0, .int .i64 0, .slice none 0 0], .reg 3 [.int .i64 x.base, .int .i64 x.last, .int .i64 x.src, .int .i64 x.epoch, .int .i64 x.pid, .int .i64 x.gen, .int .i64 x.seq, .bool x.txn, .int .i64 x.ctl, .slice B x.recs.length d], .reg 2 [.int .i64 l.limit, .int .i64 l.start, .slice A l.segs.length c]], []⟩) ?_ ?_
 ·(intros; try refine go_st ?_); refine go_z _ (List.Sublist.refl _) (by decide) ?_; refine sJ c20r12.eq_1 ?_
  refine hA.y_ld e1 rfl rfl ?_
  rintro a1 ha1 cs hse
  have hapd := RAppend_ok s x l.limit cs _ G hse (hb s (List.mem_of_getElem? e1)) hx0 hi
  obtain ⟨B1, d1, rfl, hsb, hsi⟩ := hse
  unfold cellS at hapd ⊢
  refine sI ?_
  refine ⟨?_, ?_⟩
  ·refine (ownSE_d hapd _ _).mono ?_
   rintro r h' ⟨G1, rfl, hg1, A3, c3, rfl, hs1⟩
   refine sI ?_
   refine ⟨grow_G hg1, ?_⟩
   intro b9 hb9
   refine ⟨grow_L hg1 (.cons _ (List.Sublist.refl _)), ?_⟩
   refine sI ?_
   refine stX_blk [] _ rfl (Nat.le_refl 2) ⟨rfl, rfl⟩ ?_
   refine sI ?_
   refine ⟨grow_L hg1 (.cons _ (List.Sublist.refl _)), ?_⟩
   refine sI ?_
   exact go_l ⟨G1, b9, A3, c3, ⟨hg1, hs1⟩, eE, eE, eE, rfl⟩
  ·intro b9 hb9
   refine ⟨grow_L (fun _ _ h => h) (.cons _ (List.Sublist.refl _)), ?_⟩
   refine (ownSE_d hapd _ _).mono ?_
   rintro r h' ⟨G1, rfl, hg1, A3, c3, rfl, hs1⟩
   refine sI ?_
   refine ⟨grow_L hg1 (.cons _ (List.Sublist.refl _)), ?_⟩
   refine sI ?_
   refine stX_blk [] _ rfl (Nat.le_refl 2) ⟨rfl, rfl⟩ ?_
   refine sI ?_
   refine ⟨grow_L hg1 (.cons _ (List.Sublist.refl _)), ?_⟩
   refine sI ?_
   exact go_l ⟨G1, b9, A3, c3, ⟨hg1, hs1⟩, eE, eE, eE, rfl⟩
 rintro e h ⟨G1, b9, A3, c3, ⟨hg1, hs1⟩, e8, e9, e10, rfl⟩
 refine go_keep [8, 9, 10] ?_
 refine sJ3 @e8 @e9 @e10 ?_
 intros
 refine go_gx gx_blk ?_
 rintro h' ⟨G2, rfl, hg2, f9⟩
 have hs1 := SB.le hs1 hg2
 have hg1 := hg1.trans hg2
 generalize appS s x l.limit = q at *
 obtain ⟨s', er⟩ := q
 dsimp only at hs1 hapb f9 ⊢
 intros; refine gr 54 55 ?_; refine sJ c20r13.eq_1 ?_
 intros; refine gc ?_; refine sI ?_
 refine gb (fun k4 => ?_) (fun k4 => ?_)
 ·have k4 : er = 0 := of_decide_eq_true k4
  rw [if_pos k4]
  have hse : SE G2 s' [.int .i64 s'.base, .slice A3 s'.bytes.length c3] := ⟨A3, c3, rfl, hs1, by rw [hapb k4]; exact hsi⟩
  intros; refine gr 56 60 ?_; refine sJ c20r14.eq_1 ?_
  refine ⟨_, ⟨_, [.int .i64 s'.base, .slice A3 s'.bytes.length c3], rfl, rfl, rfl, fun j u hu => .g (f9 j u hu)⟩, ?_⟩
  refine sI ?_
  refine (rwith_ok l K s' _ _ G2 (LE.le hg1 hl0) hse (by omega) (by omega) _ _).mono ?_
  rintro r h' ⟨G3, rfl, hg3, cs3, rfl, hle3⟩
  have hle4 := hle3
  obtain ⟨A4, c4, rfl, -⟩ := hle3
  unfold cellL
  refine sI ?_
  intros; refine rV ?_; simp only [push_cast, Nat.reduceBEq]
  exact ⟨_, rfl, hle4⟩
 have k4 := of_decide_eq_false k4
 rw [if_neg k4]
 clear hs1 f9 hapb
 have hd : decide ((l.segs.length : Int) = 256) = decide (l.segs.length = 256) := decide_eq_decide.2 (by omega)
 intros; refine gN ?_
 intros; refine gr 61 63 ?_; refine sJ2 c20r15.eq_1 @hd ?_
 intros; refine gc ?_; refine sI ?_
 refine gb (fun k5 => ?_) (fun k5 => ?_)
 ·have k5 := of_decide_eq_true k5
  rw [if_pos k5]
  intros; refine gr 64 65 ?_; refine sJ c20r16.eq_1 ?_
  intros; refine rV ?_; simp only [push_cast, Nat.reduceBEq]
  exact noneL_r
 have k5 := of_decide_eq_false k5
 rw [if_neg k5]
 intros; refine gN ?_
 intros; refine gr 65 75 ?_; refine sJ c20r17.eq_1 ?_
 intro b10 hb10
 refine sI ?_
 refine calls_gx0 F58.enters (gx_slv_at [] _ (by decide) (Cells.one (E := BE G2) (x := x) (BE.le hg1 hx0) rfl)) ?_
 rintro h' ⟨G3, rfl, hg3, hv3⟩
 refine (ROf_ok x.base l.limit [x] _ G3 (hv3.le (.refl _) fun _ _ h => BE.le hg3 h) hxi hi _ _).mono ?_
 rw [hof]
 rintro r h' ⟨G4, rfl, hg4, A5, c5, rfl, hs5⟩
 have hg14 := hg1.trans (hg3.trans hg4)
 have hse2 : SE G4 ⟨x.base, bytesB x⟩ [.int .i64 (⟨x.base, bytesB x⟩ : Sg).base, .slice A5 (⟨x.base, bytesB x⟩ : Sg).bytes.length c5] := ⟨A5, c5, rfl, hs5, hxi⟩
 generalize (⟨x.base, bytesB x⟩ : Sg) = s9 at *
 have hsl1 := SlSE.le hg14 hsl0
 refine sI ?_
 intros; refine gr 75 79 ?_; refine sJ c20r18.eq_1 ?_
 intro bk hbk
 refine apX_v (.inr ⟨⟨_, rfl⟩, rfl, rfl, rfl, rfl⟩) hsl1 rfl SE1 ⟨by omega, by unfold maxLen; omega⟩ fun ys A9 c9 hcs => ?_
 simp only [Nat.zero_add]
 refine sI ?_
 intros; refine gr 79 83 ?_; refine sJ c20r19.eq_1 ?_
 intro bk2 hbk2
 refine app1 (L1 := []) (L2 := [_, _, _, _]) (E := SE G4) (x := s9) rfl hse2 rfl (by simp [Value.oneCell']) hcs (by omega) (by omega) fun A' c' zc' hzc' => ?_
 generalize l.segs ++ [s9] = ZS at *
 refine sI ?_
 intros; refine gr 83 84 ?_; refine sJ c20r20.eq_1 ?_
 intros
 intros; try refine go_seq ?_
 refine go_gx (gx_slv_at [_] _ (by decide) hzc') ?_
 rintro h' ⟨G5, rfl, hg5, hv5⟩
 intros; refine gr 85 86 ?_; refine sJ c20r21.eq_1 ?_
 intros; refine rV ?_; simp only [push_cast, Nat.reduceBEq]
 exact ⟨_, rfl, A', c', rfl, hv5.le (.refl _) fun _ _ h => SE.le hg5 h, hi, hj⟩
theorem F22 : Fun Tryz.prog 22 56 v22 c22 o22 := Fun.mkA Tryz.func22 Tryz.ntmps22
theorem F24 : Fun Tryz.prog 24 50 v24 c24 o24 := Fun.mkA Tryz.func24 Tryz.ntmps24
theorem F26 : Fun Tryz.prog 26 60 v26 c26 o26 := Fun.mkA Tryz.func26 Tryz.ntmps26
set_option maxHeartbeats 1000000 in
theorem rtru_ok (l : Lg) (to : Int) (cs : List Value) (G : Nat → Option Obj) (hl : LE G l cs) (hb : smL l.segs) (hm : l.segs.length ≤ 1000) (hto : I64 to) :
  FnD Tryz.prog 22 #[.agg cs.toArray, .int .i64 to] G (LgR (truL l to)) := by
 have hl0 := hl
 have hchk := RChkL_ok l cs G hl hb
 obtain ⟨A, c, rfl, hsl, hi, hj⟩ := hl
 have hsl0 := hsl
 obtain ⟨A0, c0, he, hc, hmx, hA⟩ := hsl
 cases he
 refine F22.fnD (by simp) (go_of ?_)
 unfold c22
 unfold cellL at hchk hl0 ⊢
 intros; refine gr 0 0 ?_; refine sJ c22r0.eq_1 ?_
 intros; refine gr 9 11 ?_; refine sJ c22r1.eq_1 ?_
 refine (hchk _ _).mono ?_; rintro _ _ ⟨rfl, rfl⟩; refine sI ?_
 intros; refine gr 11 12 ?_; refine sJ c22r2.eq_1 ?_
 intros; refine gc ?_; refine sI ?_
 refine gb (fun k1 => ?_) (fun k1 => ?_)
 ·have k1 := of_decide_eq_true k1
  intros; refine gr 13 15 ?_; refine sJ c22r3.eq_1 ?_
  intros; refine rV ?_; simp only [push_cast, Nat.reduceBEq]
  rw [truL, if_neg k1]
  exact noneL_r
 have k1 : chkL l = 0 := by simpa using k1
 have hbt := rbetw_ok l to _ G hl0 hb k1
 intros; refine gN ?_
 intros; refine gr 15 18 ?_; refine sJ c22r4.eq_1 ?_
 refine (hbt _ _).mono ?_; rintro _ _ ⟨rfl, rfl⟩; refine sI ?_
 intros; refine gc ?_; refine sI ?_
 refine gb (fun k2 => ?_) (fun k2 => ?_)
 ·have k2 : betw l to = false := by simpa using k2
  intros; refine gr 19 20 ?_; refine sJ c22r5.eq_1 ?_
  intros; refine rV ?_; simp only [push_cast, Nat.reduceBEq]
  rw [truL, if_pos k1, if_neg (by rw [k2]; simp)]
  exact noneL_r
 have k2 : betw l to = true := by simpa using k2
 have htl : truL l to = (⟨l.limit, l.start, truT l.segs to⟩, 0) := by rw [truL, if_pos k1, if_pos k2]
 rw [htl]
 intros; refine gN ?_
 intros; refine gr 0 0 ?_; refine sJ c22r6.eq_1 ?_
 intros
 intros; try refine go_seq ?_
 refine go_ghost (ghost_nil none 55 2) ?_
 refine go_cut (fun e h => ∃ (G' : Nat → Option Obj) (u : Value) (zc : List Value), (Gle G G' ∧ Cells (SE G') 2 (truS l.segs to) zc) ∧ e 7 = u ∧ e 1 = .int .i64 to ∧ h = ⟨G', [.row u 55 2 (truS l.segs to).length zc, .reg 4 [.int .i64 0, .int .i64 0, .slice none 0 0], .reg 2 [.int .i64 l.limit, .int .i64 l.start, .slice A l.segs.length c]], []⟩) ?_ ?_
 ·intros; refine gr 0 0 ?_; refine sJ c22r7.eq_1 ?_
  (intros; try refine go_st ?_)
  refine go_loop (fun e h => ∃ (k : Nat) (G' : Nat → Option Obj) (u : Value) (zc : List Value), (k ≤ l.segs.length ∧ Gle G G' ∧ Cells (SE G') 2 (truS (l.segs.take k) to) zc) ∧ e 8 = .int .i64 k ∧ e 7 = u ∧ e 1 = .int .i64 to ∧ h = ⟨G', [.row u 55 2 (truS (l.segs.take k) to).length zc, .reg 4 [.int .i64 0, .int .i64 0, .slice none 0 0], .reg 2 [.int .i64 l.limit, .int .i64 l.start, .slice A l.segs.length c]], []⟩) (fun e h => l.segs.length - iv (e 8)) ?_ ?_
  ·exact ⟨0, G, .slice none 0 0, [], ⟨Nat.zero_le _, .refl _, .nil⟩, eE, eE, eE, rfl⟩
  rintro e h ⟨k, G', u, zc, ⟨hk, hg', hzc⟩, e8, e7, e1, rfl⟩
  refine go_keep [1, 7, 8] ?_
  refine sJ3 @e1 @e7 @e8 ?_
  intros; refine gr 20 24 ?_; refine sJ c22r8.eq_1 ?_
  intros; refine gc ?_; refine sI ?_
  refine gb (fun ht => ?_) (fun ht => ?_)
  ·have ht : k < l.segs.length := by have := of_decide_eq_true ht; omega
   have hw := inc_i k c (by omega) hmx
   obtain ⟨s, hs⟩ : ∃ s, l.segs[k]? = some s := ⟨l.segs[k], List.getElem?_eq_getElem (by omega)⟩
   have hbs := hb s (List.mem_of_getElem? hs)
   have htr := truS_take to hs
   have hA' := hA.le hg' (E' := SE G') fun _ _ h => SE.le hg' h
   have hlen := truS_len (l.segs.take k) to
   rw [List.length_take] at hlen
   intros; refine gN ?_
   intros; refine gr 28 34 ?_; refine sJ c22r9.eq_1 ?_
   refine hA'.x_lf (k := k) (u := .int .i64 s.base) hs rfl rfl (fun cs h => by obtain ⟨_, _, rfl, -⟩ := h; rfl) fun a ha => ?_
   refine sI ?_
   intros; refine gc ?_; refine sI ?_
   refine gb (fun k3 => ?_) (fun k3 => ?_)
   ·have k3 := of_decide_eq_true k3
    rw [if_pos k3] at htr
    intros; refine gr 35 45 ?_; refine sJ c22r10.eq_1 ?_
    refine hA'.x_ld hs rfl rfl ?_
    rintro a1 ha1 cs hse
    have hcut := ownSg_d (RCut_ok s to cs G' hse (by omega) hto)
    obtain ⟨B, d, rfl, hsb, hsi⟩ := hse
    unfold cellS at hcut ⊢
    refine sI ?_
    refine (hcut _ _).mono ?_
    rintro r h' ⟨G2, rfl, hg2, A2, c2, rfl, hs2⟩
    refine sI ?_
    intro bk hbk
    refine app1 (L1 := []) (L2 := [_, _]) (E := SE G2) (x := cutS s to) rfl ⟨A2, c2, rfl, hs2, hsi⟩ rfl (by simp [Value.oneCell']) (cells_imp hzc fun _ _ h => SE.le hg2 h) (by omega) (by omega) fun A' c' zc' hzc' => ?_
    rw [← htr] at hzc' ⊢
    refine sI ?_
    intros
    intros; refine gN ?_
    refine go_ghost (ghost_sub (.cons _ (List.Sublist.refl _))) ?_
    intros; refine gr 25 27 ?_; refine sJ2 c22r11.eq_1 @hw ?_
    (intros; try refine go_st ?_)
    refine go_l ⟨⟨k + 1, G2, .slice A' (truS (l.segs.take (k + 1)) to).length c', zc', ⟨by omega, hg'.trans hg2, hzc'⟩, eE, eE, eE, rfl⟩, ?_⟩
    refine sI ?_
    omega
   ·have k3 := of_decide_eq_false k3
    rw [if_neg k3, List.append_nil] at htr
    intros; refine gN ?_
    intros; refine gr 25 27 ?_; refine sJ2 c22r11.eq_1 @hw ?_
    (intros; try refine go_st ?_)
    rw [← htr] at hzc ⊢
    refine go_l ⟨⟨k + 1, G', u, zc, ⟨by omega, hg', hzc⟩, eE, eE, eE, rfl⟩, ?_⟩
    refine sI ?_
    omega
  ·have ht : k = l.segs.length := by have := of_decide_eq_false ht; omega
   subst ht
   rw [List.take_length] at hzc ⊢
   refine go_exit ?_
   refine sI ?_
   intros; refine gN ?_
   exact go_l ⟨G', u, zc, ⟨hg', hzc⟩, eE, eE, rfl⟩
 rintro e h ⟨G1, u, zc, ⟨hg1, hzc⟩, e7, e1, rfl⟩
 refine go_keep [1, 7] ?_
 refine sJ2 @e1 @e7 ?_
 intros
 intros; try refine go_seq ?_
 refine go_gx (gx_knowS (.head _)) ?_
 rintro h' ⟨rfl, A2, c2, rfl, -, -⟩
 refine go_cut (fun e h => ∃ (A2 : Option Addr) (c2 : Nat) (zc : List Value) (Lh : List Kx.Item), Cells (SE G1) 2 (truT l.segs to) zc ∧ e 7 = .slice A2 (truT l.segs to).length c2 ∧ h = ⟨G1, Lh, []⟩ ∧ ([.row (.slice A2 (truT l.segs to).length c2) 55 2 (truT l.segs to).length zc, .reg 4 [.int .i64 0, .int .i64 0, .slice none 0 0], .reg 2 [.int .i64 l.limit, .int .i64 l.start, .slice A l.segs.length c]] : List Kx.Item).Sublist Lh) ?_ ?_
 ·intros; refine gr 45 47 ?_; refine sJ c22r12.eq_1 ?_
  intros; refine gc ?_; refine sI ?_
  refine gb (fun k3 => ?_) (fun k3 => ?_)
  ·have k3 : truS l.segs to = [] := List.eq_nil_of_length_eq_zero (by have := of_decide_eq_true k3; omega)
   have ht : truT l.segs to = [⟨to, []⟩] := by rw [truT, if_pos k3]
   rw [ht]
   rw [k3] at hzc ⊢
   intros; refine gr 48 53 ?_; refine sJ c22r13.eq_1 ?_
   intro bk hbk
   refine app1 (L1 := []) (L2 := [_, _]) (E := SE G1) (x := ⟨to, []⟩) rfl ⟨none, 0, rfl, SB.nil, hto⟩ rfl (by simp [cellS, Value.oneCell']) hzc (by simp) (by omega) fun A' c' zc' hzc' => ?_
   rw [List.nil_append] at hzc' ⊢
   refine sI ?_
   (intros; try refine go_st ?_)
   exact go_l ⟨A', c', zc', _, hzc', eE, rfl, .cons _ (List.Sublist.refl _)⟩
  ·have k3 : ¬ truS l.segs to = [] := fun h => by rw [h] at k3; simp at k3
   have ht : truT l.segs to = truS l.segs to := by rw [truT, if_neg k3]
   rw [ht]
   intros; refine gN ?_
   exact go_l ⟨_, _, zc, _, hzc, eE, rfl, List.Sublist.refl _⟩
 rintro e h ⟨A2, c2, zc, Lh, hzc, e7, rfl, hsub⟩
 refine go_keep [7] ?_
 refine sJ @e7 ?_
 intros
 refine go_ghost (ghost_sub hsub) ?_
 intros; refine gr 53 54 ?_; refine sJ c22r14.eq_1 ?_
 intros
 intros; try refine go_seq ?_
 refine go_gx (gx_slv_at [] _ (by decide) hzc) ?_
 rintro h' ⟨G2, rfl, hg2, hv2⟩
 intros; refine gr 55 56 ?_; refine sJ c22r15.eq_1 ?_
 intros; refine rV ?_; simp only [push_cast, Nat.reduceBEq]
 exact ⟨_, rfl, A2, c2, rfl, hv2.le (.refl _) fun _ _ h => SE.le hg2 h, hi, hj⟩
theorem trm_step {l : List Sg} {n : Nat} {s : Sg} (st : Int) (h : l[n]? = some s) (hn : n + 1 < l.length) : trmN st (l.drop n) = if endB s ≤ st then trmN st (l.drop (n + 1)) + 1 else 0 := by
 obtain ⟨h1, h2⟩ := List.getElem?_eq_some_iff.1 h
 rw [List.drop_eq_getElem_cons h1, h2, List.drop_eq_getElem_cons hn, trmN]
theorem trm_end {l : List Sg} {n : Nat} (st : Int) (hn : n + 1 = l.length) : trmN st (l.drop n) = 0 := by
 have h1 : n < l.length := by omega
 rw [List.drop_eq_getElem_cons h1, List.drop_eq_nil_of_le (by omega)]
 rfl
set_option maxHeartbeats 1000000 in
theorem rtrm_ok (l : Lg) (st : Int) (cs : List Value) (G : Nat → Option Obj) (hl : LE G l cs) (hb : smL l.segs) (hm : l.segs.length ≤ 1000) (hst : I64 st) :
  FnD Tryz.prog 24 #[.agg cs.toArray, .int .i64 st] G (LgR (trmL l st)) := by
 have hl0 := hl
 have hchk := RChkL_ok l cs G hl hb
 obtain ⟨A, c, rfl, hsl, hi, hj⟩ := hl
 have hsl0 := hsl
 obtain ⟨A0, c0, he, hc, hmx, hA⟩ := hsl
 cases he
 refine F24.fnD (by simp) (go_of ?_)
 unfold c24
 unfold cellL at hchk hl0 ⊢
 have hbad : ∀ (fr : List Td) (e : Env), chkL l = 0 → ¬ (betw l st = true ∧ inO st = true) → go none Tryz.prog 50 v24.1 v24.2 (retQ o24 fun v h => LgR (trmL l st) h.G v) (Td.s ((SC.reg false c24r5).seq .ret) :: fr) e ⟨G, [.reg 4 [.int .i64 0, .int .i64 0, .slice none 0 0], .reg 2 [.int .i64 l.limit, .int .i64 l.start, .slice A l.segs.length c]], []⟩ := fun fr e h0 h => by
  intros; refine gr 23 24 ?_; refine sJ c24r5.eq_1 ?_
  intros; refine rV ?_; simp only [push_cast, Nat.reduceBEq]
  rw [trmL, if_pos h0, if_neg h]
  exact noneL_r
 intros; refine gr 0 0 ?_; refine sJ c24r0.eq_1 ?_
 intros; refine gr 8 10 ?_; refine sJ c24r1.eq_1 ?_
 refine (hchk _ _).mono ?_; rintro _ _ ⟨rfl, rfl⟩; refine sI ?_
 intros; refine gr 10 11 ?_; refine sJ c24r2.eq_1 ?_
 intros; refine gc ?_; refine sI ?_
 refine gb (fun k1 => ?_) (fun k1 => ?_)
 ·have k1 := of_decide_eq_true k1
  intros; refine gr 12 14 ?_; refine sJ c24r3.eq_1 ?_
  intros; refine rV ?_; simp only [push_cast, Nat.reduceBEq]
  rw [trmL, if_neg k1]
  exact noneL_r
 have k1 : chkL l = 0 := by simpa using k1
 have hbt := rbetw_ok l st _ G hl0 hb k1
 have h0 : 0 < l.segs.length := List.length_pos_iff.2 (chkL_0 k1).2.1
 intros; refine gN ?_
 intros; refine gr 14 22 ?_; refine sJ c24r4.eq_1 ?_
 refine (hbt _ _).mono ?_; rintro _ _ ⟨rfl, rfl⟩; refine sI ?_
 refine gd (fun k2 => ?_) (fun k2 => ?_)
 ·have k2 : betw l st = false := by simpa using k2
  refine sI ?_
  intros; refine gc ?_; refine sI ?_
  exact hbad _ _ k1 fun h => by rw [k2] at h; cases h.1
 have k2 : betw l st = true := by simpa using k2
 refine sI ?_
 refine (lin_ok _ _ _ _).mono ?_; rintro _ _ ⟨rfl, rfl⟩; refine sI ?_
 intros; refine gc ?_; refine sI ?_
 refine gb (fun k3 => ?_) (fun k3 => ?_)
 ·have k3 : inO st = false := by simpa using k3
  exact hbad _ _ k1 fun h => by rw [k3] at h; cases h.2
 have k3 : inO st = true := by simpa using k3
 clear hbad
 have hw1 : IntKind.i64.wrap ((l.segs.length : Int) - 1) = (l.segs.length : Int) - 1 := by rw [w64_id] <;> omega
 rw [trmL, if_pos k1, if_pos ⟨k2, k3⟩]
 intros; refine gN ?_
 intros; refine gr 0 0 ?_; refine sJ c24r6.eq_1 ?_
 intros
 intros; try refine go_seq ?_
 refine go_cut (fun e h => (trmN st l.segs < l.segs.length) ∧ e 1 = .int .i64 st ∧ e 7 = .int .i64 ((trmN st l.segs : Nat) : Int) ∧ h = ⟨G, [.reg 4 [.int .i64 0, .int .i64 0, .slice none 0 0], .reg 2 [.int .i64 l.limit, .int .i64 l.start, .slice A l.segs.length c]], []⟩) ?_ ?_
 ·(intros; try refine go_st ?_)
  refine go_loop (fun e h => ∃ n : Nat, (n < l.segs.length ∧ trmN st l.segs = n + trmN st (l.segs.drop n)) ∧ e 1 = .int .i64 st ∧ e 7 = .int .i64 n ∧ h = ⟨G, [.reg 4 [.int .i64 0, .int .i64 0, .slice none 0 0], .reg 2 [.int .i64 l.limit, .int .i64 l.start, .slice A l.segs.length c]], []⟩) (fun e h => l.segs.length - iv (e 7)) ?_ ?_
  ·exact ⟨0, ⟨h0, by simp⟩, eE, eE, rfl⟩
  rintro e h ⟨n, ⟨hn, htr⟩, e1, e7, rfl⟩
  refine go_keep [1, 7] ?_
  refine sJ2 @e1 @e7 ?_
  have hw := inc_i n c (by omega) hmx
  obtain ⟨s, hs⟩ : ∃ s, l.segs[n]? = some s := ⟨l.segs[n], List.getElem?_eq_getElem (by omega)⟩
  have hbs := hb s (List.mem_of_getElem? hs)
  intros; refine gr 24 39 ?_; refine sJ2 c24r7.eq_1 @hw1 ?_
  refine gd (fun k4 => ?_) (fun k4 => ?_)
  ·have k4 : n + 1 < l.segs.length := by have := of_decide_eq_true k4; omega
   rw [trm_step st hs k4] at htr
   refine sI ?_
   refine hA.x_ld hs rfl rfl ?_
   rintro a1 ha1 cs hse
   have hend := REnd_ok s cs G hse (by omega)
   obtain ⟨B, d, rfl, -⟩ := hse
   unfold cellS at hend ⊢
   refine sI ?_
   refine (hend _ _).mono ?_; rintro _ _ ⟨rfl, rfl⟩; refine sI ?_
   intros; refine gc ?_; refine sI ?_
   refine gb (fun k5 => ?_) (fun k5 => ?_)
   ·have k5 := of_decide_eq_true k5
    rw [if_pos k5] at htr
    intros; refine gN ?_
    intros; refine gr 40 42 ?_; refine sJ2 c24r8.eq_1 @hw ?_
    (intros; try refine go_st ?_)
    refine go_l ⟨⟨n + 1, ⟨k4, by omega⟩, eE, eE, rfl⟩, ?_⟩
    refine sI ?_
    omega
   ·have k5 := of_decide_eq_false k5
    rw [if_neg k5, Nat.add_zero] at htr
    refine go_exit ?_
    refine sI ?_
    intros; refine gN ?_
    rw [htr]
    exact go_l ⟨hn, eE, eE, rfl⟩
  ·have k4 : n + 1 = l.segs.length := by have := of_decide_eq_false k4; omega
   rw [trm_end st k4, Nat.add_zero] at htr
   refine sI ?_
   intros; refine gc ?_; refine sI ?_
   refine go_exit ?_
   refine sI ?_
   intros; refine gN ?_
   rw [htr]
   exact go_l ⟨hn, eE, eE, rfl⟩
 rintro e h ⟨hlt, e1, e7, rfl⟩
 refine go_keep [1, 7] ?_
 refine sJ2 @e1 @e7 ?_
 generalize trmN st l.segs = n at *
 (intros; try refine go_st ?_); refine go_y _ (List.Sublist.refl _) (by decide) ?_; refine sJ c24r9.eq_1 ?_
 refine sJ @sqY_i ?_
 refine ⟨⟨by omega, by omega, by omega, by omega⟩, ?_⟩
 have hds : SlV G (SE G) 2 (.slice (if c = n then A else A.map (·.add (n * 2))) (l.segs.length - n) (c - n)) (l.segs.drop n) := by
  refine ⟨_, _, by rw [List.length_drop], by rw [List.length_drop]; omega, by omega, ?_⟩
  have := hA.cut (l := n) (n := l.segs.length) (B := if c = n then A else A.map (·.add (n * 2))) (Nat.le_refl _) (fun h => by rw [if_neg (by omega)])
  rw [List.take_length] at this
  exact this
 refine sJ c24r10.eq_1 ?_
 intros; refine rV ?_; simp only [push_cast, Nat.reduceBEq]
 exact ⟨_, rfl, if c = n then A else A.map (·.add (n * 2)), c - n, by simp only [cellL, List.length_drop], by dsimp only; rw [List.length_drop]; exact hds, hi, hst⟩
set_option maxHeartbeats 1000000 in
theorem rrep_ok (l : Lg) (n : Int) (bs : List Batch) (cs : List Value) (v : Value) (G : Nat → Option Obj) (hl : LE G l cs) (hb : smL l.segs) (hm : l.segs.length ≤ 1000) (hni : I64 n) (hbs : SlV G (BE G) 10 v bs) :
  FnD Tryz.prog 26 #[.agg cs.toArray, .int .i64 n, v] G (LgR (repL l n bs)) := by
 have hl0 := hl
 have hchk := RChkL_ok l cs G hl hb
 obtain ⟨A, c, rfl, hsl, hi, hj⟩ := hl
 have hsl0 := hsl
 obtain ⟨A0, c0, he, hc, hmx, hA⟩ := hsl
 cases he
 have hbs0 := hbs
 obtain ⟨B, d, rfl, hd, hmy, hB⟩ := hbs
 refine F26.fnD (by simp) (go_of ?_)
 unfold c26
 unfold cellL at hchk hl0 ⊢
 intros; refine gr 0 0 ?_; refine sJ c26r0.eq_1 ?_
 intros; refine gr 11 13 ?_; refine sJ c26r1.eq_1 ?_
 refine (hchk _ _).mono ?_; rintro _ _ ⟨rfl, rfl⟩; refine sI ?_
 intros; refine gr 13 14 ?_; refine sJ c26r2.eq_1 ?_
 intros; refine gc ?_; refine sI ?_
 refine gb (fun k1 => ?_) (fun k1 => ?_)
 ·have k1 := of_decide_eq_true k1
  intros; refine gr 15 17 ?_; refine sJ c26r3.eq_1 ?_
  intros; refine rV ?_; simp only [push_cast, Nat.reduceBEq]
  rw [repL, if_neg k1]
  exact noneL_r
 have k1 : chkL l = 0 := by simpa using k1
 obtain ⟨c1, c2, c3, c4⟩ := chkL_0 k1
 have hw0 : IntKind.i64.wrap ((l.segs.length : Int) - 1) = (l.segs.length : Int) - 1 := by rw [w64_id] <;> omega
 intros; refine gN ?_
 intros; try refine go_seq ?_
 refine go_cut (fun e h => (0 ≤ n ∧ n < (l.segs.length : Int) - 1) ∧ e 1 = .int .i64 n ∧ e 2 = .slice B bs.length d ∧ h = ⟨G, [.reg 6 [.int .i64 0, .int .i64 0, .slice none 0 0], .reg 3 [.int .i64 l.limit, .int .i64 l.start, .slice A l.segs.length c]], []⟩) ?_ ?_
 ·intros; refine gr 17 26 ?_; refine sJ2 c26r4.eq_1 @hw0 ?_
  refine gd (fun k2 => ?_) (fun k2 => ?_)
  ·have k2 := of_decide_eq_true k2
   refine sI ?_
   intros; refine gc ?_; refine sI ?_
   intros; refine gr 27 28 ?_; refine sJ c26r5.eq_1 ?_
   intros; refine rV ?_; simp only [push_cast, Nat.reduceBEq]
   rw [repL, if_pos k1, if_neg (by omega)]
   exact noneL_r
  ·have k2 := of_decide_eq_false k2
   refine sI ?_
   intros; refine gc ?_; refine sI ?_
   refine gb (fun k3 => ?_) (fun k3 => ?_)
   ·have k3 := of_decide_eq_true k3
    intros; refine gr 27 28 ?_; refine sJ c26r5.eq_1 ?_
    intros; refine rV ?_; simp only [push_cast, Nat.reduceBEq]
    rw [repL, if_pos k1, if_neg (by omega)]
    exact noneL_r
   ·have k3 := of_decide_eq_false k3
    intros; refine gN ?_
    exact go_l ⟨by omega, eE, eE, rfl⟩
 rintro e h ⟨k2, e1, e2, rfl⟩
 refine go_keep [1, 2] ?_
 refine sJ2 @e1 @e2 ?_
 obtain ⟨k, rfl⟩ : ∃ k : Nat, n = (k : Int) := ⟨n.toNat, by omega⟩
 obtain ⟨s, hs⟩ : ∃ s, l.segs[k]? = some s := ⟨l.segs[k]'(by omega), List.getElem?_eq_getElem _⟩
 obtain ⟨t, ht⟩ : ∃ t, l.segs[k + 1]? = some t := ⟨l.segs[k + 1]'(by omega), List.getElem?_eq_getElem _⟩
 have n1 : nthS l k = s := by rw [nthS, List.getD_eq_getElem?_getD, hs]; rfl
 have n2 : nthS l (k + 1) = t := by rw [nthS, List.getD_eq_getElem?_getD, ht]; rfl
 have hrep : repL l (k : Int) bs = if (ofS s.base bs l.limit).2 = 0 then if t.base < endB (ofS s.base bs l.limit).1 then (noneL, 71) else (⟨l.limit, l.start, l.segs.set k (ofS s.base bs l.limit).1⟩, 0) else (noneL, (ofS s.base bs l.limit).2) := by
  rw [repL, if_pos k1, if_pos k2, Int.toNat_natCast, n1, n2]
 rw [hrep]
 clear hrep
 have hsi := sl_i hA s (List.mem_of_getElem? hs)
 have hof := ROf_ok s.base l.limit bs _ G hbs0 hsi hi
 have hol := @ofS_len s.base l.limit bs
 generalize ofS s.base bs l.limit = q at *
 obtain ⟨s', er⟩ := q
 dsimp only at hol ⊢
 intros
 intros; try refine go_seq ?_
 refine go_cut (fun e h => ∃ (G' : Nat → Option Obj) (b9 : Nat) (A3 : Option Addr) (c3 : Nat), (Gle G G' ∧ SB G' (.slice A3 s'.bytes.length c3) s'.bytes) ∧ e 1 = .int .i64 (k : Int) ∧ e 9 = .pointer (some ⟨b9, 0, none⟩) ∧ e 10 = .int .i64 er ∧ h = ⟨G', [.blk b9 [.int .i64 s'.base, .slice A3 s'.bytes.length c3], .reg 6 [.int .i64 0, .int .i64 0, .slice none 0 0], .reg 3 [.int .i64 l.limit, .int .i64 l.start, .slice A l.segs.length c]], []⟩) ?_ ?_
 ·(intros; try refine go_st ?_); refine go_z _ (List.Sublist.refl _) (by decide) ?_; refine sJ c26r6.eq_1 ?_
  refine hA.y_lf (k := k) (u := .int .i64 s.base) hs rfl rfl (fun cs h => by obtain ⟨_, _, rfl, -⟩ := h; rfl) fun a ha => ?_
  refine sI ?_
  refine ⟨?_, ?_⟩
  ·refine (hof _ _).mono ?_
   rintro r h' ⟨G1, rfl, hg1, A3, c3, rfl, hs1⟩
   refine sI ?_
   refine ⟨grow_G hg1, ?_⟩
   intro b9 hb9
   refine ⟨grow_L hg1 (.cons _ (List.Sublist.refl _)), ?_⟩
   refine sI ?_
   refine stX_blk [] _ rfl (Nat.le_refl 2) ⟨rfl, rfl⟩ ?_
   refine sI ?_
   refine ⟨grow_L hg1 (.cons _ (List.Sublist.refl _)), ?_⟩
   refine sI ?_
   exact go_l ⟨G1, b9, A3, c3, ⟨hg1, hs1⟩, eE, eE, eE, rfl⟩
  ·intro b9 hb9
   refine ⟨grow_L (fun _ _ h => h) (.cons _ (List.Sublist.refl _)), ?_⟩
   refine (hof _ _).mono ?_
   rintro r h' ⟨G1, rfl, hg1, A3, c3, rfl, hs1⟩
   refine sI ?_
   refine ⟨grow_L hg1 (.cons _ (List.Sublist.refl _)), ?_⟩
   refine sI ?_
   refine stX_blk [] _ rfl (Nat.le_refl 2) ⟨rfl, rfl⟩ ?_
   refine sI ?_
   refine ⟨grow_L hg1 (.cons _ (List.Sublist.refl _)), ?_⟩
   refine sI ?_
   exact go_l ⟨G1, b9, A3, c3, ⟨hg1, hs1⟩, eE, eE, eE, rfl⟩
 rintro e h ⟨G1, b9, A3, c3, ⟨hg1, hs1⟩, e1, e9, e10, rfl⟩
 refine go_keep [1, 9, 10] ?_
 refine sJ3 @e1 @e9 @e10 ?_
 intros
 intros; try refine go_seq ?_
 refine go_gx gx_blk ?_
 rintro h' ⟨G2, rfl, hg2, f9⟩
 have hs1 := SB.le hs1 hg2
 have hg1 := hg1.trans hg2
 intros; refine gr 41 42 ?_; refine sJ c26r7.eq_1 ?_
 intros; refine gc ?_; refine sI ?_
 refine gb (fun k3 => ?_) (fun k3 => ?_)
 ·have k3 := of_decide_eq_true k3
  intros; refine gr 43 45 ?_; refine sJ c26r8.eq_1 ?_
  intros; refine rV ?_; simp only [push_cast, Nat.reduceBEq]
  rw [if_neg k3]
  exact noneL_r
 have k3 : er = 0 := by simpa using k3
 rw [if_pos k3]
 obtain ⟨o1, o2⟩ := hol k3
 have hse : SE G2 s' [.int .i64 s'.base, .slice A3 s'.bytes.length c3] := ⟨A3, c3, rfl, hs1, by rw [o1]; exact hsi⟩
 have hend := REnd_ok s' _ G2 hse (by omega)
 have hA2 := hA.le hg1 (E' := SE G2) fun _ _ h => SE.le hg1 h
 have hw1 : IntKind.i64.wrap ((k : Int) + 1) = ((k + 1 : Nat) : Int) := by rw [w64_id] <;> omega
 intros; refine gN ?_
 (intros; try refine go_st ?_); refine go_x _ (List.Sublist.refl _) (by decide) ?_; refine sJ c26r9.eq_1 ?_
 refine ⟨_, ⟨_, [.int .i64 s'.base, .slice A3 s'.bytes.length c3], rfl, rfl, rfl, fun j u hu => .g (f9 j u hu)⟩, ?_⟩
 refine sJ @hw1 ?_
 refine hA2.y_lf (k := k + 1) (u := .int .i64 t.base) ht rfl rfl (fun cs h => by obtain ⟨_, _, rfl, -⟩ := h; rfl) fun a ha => ?_
 refine sI ?_
 refine (hend _ _).mono ?_; rintro _ _ ⟨rfl, rfl⟩; refine sI ?_
 intros; refine gc ?_; refine sI ?_
 refine gb (fun k4 => ?_) (fun k4 => ?_)
 ·have k4 := of_decide_eq_true k4
  intros; refine gr 55 56 ?_; refine sJ c26r10.eq_1 ?_
  intros; refine rV ?_; simp only [push_cast, Nat.reduceBEq]
  rw [if_pos k4]
  exact noneL_r
 have k4 := of_decide_eq_false k4
 rw [if_neg k4]
 intros; refine gN ?_
 intros; refine gr 56 60 ?_; refine sJ c26r11.eq_1 ?_
 refine ⟨_, ⟨_, [.int .i64 s'.base, .slice A3 s'.bytes.length c3], rfl, rfl, rfl, fun j u hu => .g (f9 j u hu)⟩, ?_⟩
 refine sI ?_
 refine (rwith_ok l k s' _ _ G2 (LE.le hg1 hl0) hse (by omega) (by omega) _ _).mono ?_
 rintro r h' ⟨G3, rfl, hg3, cs3, rfl, hle3⟩
 have hle4 := hle3
 obtain ⟨A4, c4, rfl, -⟩ := hle3
 unfold cellL
 refine sI ?_
 intros; refine rV ?_; simp only [push_cast, Nat.reduceBEq]
 exact ⟨_, rfl, hle4⟩
theorem F4 : Fun Tryz.prog 4 130 v4 c4 o4 := Fun.mkA Tryz.func4 Tryz.ntmps4
set_option maxHeartbeats 2000000 in
theorem ChainSteps_ok (l : Lg) (x : Batch) (off n : Int) (bs : List Batch) (cs ds : List Value) (v : Value) (G : Nat → Option Obj) (hl : LE G l cs) (hx : BE G x ds) (ho : I64 off) (hni : I64 n) (hbs : SlV G (BE G) 10 v bs) : FnS Tryz.prog 4 #[.agg cs.toArray, .agg ds.toArray, .int .i64 off, .int .i64 n, v] G (.bool true) := by
 have hl0 := hl
 have hx0 := hx
 have hbs0 := hbs
 have hlive := CLive_ok G
 have hfew := few_ok l bs cs v G hl hbs
 have hfw := Few_ok x ds G hx
 obtain ⟨A, c, rfl, hsl, hi, hj⟩ := hl
 obtain ⟨B, d, rfl, -⟩ := hx
 obtain ⟨C, k, rfl, -⟩ := hbs
 refine F4.fnS (by simp) (go_of ?_)
 unfold c4
 unfold cellL at hl0 hfew ⊢
 unfold cellH at hfw hx0 ⊢
 intros; refine gr 0 0 ?_; refine sJ c4r0.eq_1 ?_
 intros; refine gr 28 29 ?_; refine sJ c4r1.eq_1 ?_
 refine (hlive _ _).mono ?_; rintro _ _ ⟨rfl, rfl⟩; refine sI ?_
 intros; try refine go_seq ?_
 refine go_cut (fun e h => (smL l.segs ∧ l.segs.length ≤ 12) ∧ e 2 = .int .i64 off ∧ e 3 = .int .i64 n ∧ e 4 = .slice C bs.length k ∧ e 11 = .bool true ∧ h = ⟨G, [.reg 6 [.int .i64 x.base, .int .i64 x.last, .int .i64 x.src, .int .i64 x.epoch, .int .i64 x.pid, .int .i64 x.gen, .int .i64 x.seq, .bool x.txn, .int .i64 x.ctl, .slice B x.recs.length d], .reg 5 [.int .i64 l.limit, .int .i64 l.start, .slice A l.segs.length c]], []⟩) ?_ ?_
 ·intros; refine gr 29 37 ?_; refine sJ c4r2.eq_1 ?_
  refine (hfew _ _).mono ?_
  rintro r h' ⟨⟨b1, rfl, hb1⟩, rfl⟩
  refine sI ?_
  refine gd (fun k1 => ?_) (fun k1 => ?_)
  ·refine sI ?_
   intros; refine gc ?_; refine sI ?_
   intros; refine gr 38 39 ?_; refine sJ c4r3.eq_1 ?_
   intros; refine rV ?_; simp only [push_cast, Nat.reduceBEq]
  obtain ⟨⟨n1, n2⟩, -⟩ := hb1 (by simpa using k1)
  have hsm : smL l.segs := fun s hs => by have := n2 s hs; omega
  refine sI ?_
  refine (hfw _ _).mono ?_
  rintro r h' ⟨⟨b2, rfl, hb2⟩, rfl⟩
  refine sI ?_
  intros; refine gc ?_; refine sI ?_
  refine gb (fun k2 => ?_) (fun k2 => ?_)
  ·intros; refine gr 38 39 ?_; refine sJ c4r3.eq_1 ?_
   intros; refine rV ?_; simp only [push_cast, Nat.reduceBEq]
  intros; refine gN ?_
  exact go_l ⟨⟨hsm, n1⟩, eE, eE, eE, eE, rfl⟩
 rintro e h ⟨⟨hsm, n1⟩, e2, e3, e4, e11, rfl⟩
 refine go_keep [2, 3, 4, 11] ?_
 refine sJ4 @e2 @e3 @e4 @e11 ?_
 have hg0 : Gle G G := .refl _
 intros; refine gr 39 45 ?_; refine sJ c4r4.eq_1 ?_
 refine (CAppend_ok l x _ _ G (LE.le hg0 hl0) hsm (by omega) (BE.le hg0 hx0) _ _).mono ?_
 rintro r h' ⟨G1, rfl, h1g, cs1, rfl, hle1⟩
 have y1 := hle1
 obtain ⟨A1, c1, rfl, -⟩ := hle1
 unfold cellL at y1 ⊢
 have hg1 := hg0.trans h1g
 refine sI ?_
 intros; refine gr 45 51 ?_; refine sJ c4r5.eq_1 ?_
 refine (rapp_ok l x _ _ G1 (LE.le hg1 hl0) hsm (by omega) (BE.le hg1 hx0) _ _).mono ?_
 rintro r h' ⟨G2, rfl, h2g, cs2, rfl, hle2⟩
 have y2 := hle2
 obtain ⟨A2, c2, rfl, -⟩ := hle2
 unfold cellL at y2 ⊢
 have hg2 := hg1.trans h2g
 refine sI ?_
 intros; refine gr 51 57 ?_; refine sJ c4r6.eq_1 ?_
 refine (Truncate_ok l off _ G2 (LE.le hg2 hl0) hsm (by omega) ho _ _).mono ?_
 rintro r h' ⟨G3, rfl, h3g, cs3, rfl, hle3⟩
 have y3 := hle3
 obtain ⟨A3, c3, rfl, -⟩ := hle3
 unfold cellL at y3 ⊢
 have hg3 := hg2.trans h3g
 refine sI ?_
 intros; refine gr 57 63 ?_; refine sJ c4r7.eq_1 ?_
 refine (rtru_ok l off _ G3 (LE.le hg3 hl0) hsm (by omega) ho _ _).mono ?_
 rintro r h' ⟨G4, rfl, h4g, cs4, rfl, hle4⟩
 have y4 := hle4
 obtain ⟨A4, c4, rfl, -⟩ := hle4
 unfold cellL at y4 ⊢
 have hg4 := hg3.trans h4g
 refine sI ?_
 intros; refine gr 63 69 ?_; refine sJ c4r8.eq_1 ?_
 refine (Trim_ok l off _ G4 (LE.le hg4 hl0) hsm (by omega) ho _ _).mono ?_
 rintro r h' ⟨G5, rfl, h5g, cs5, rfl, hle5⟩
 have y5 := hle5
 obtain ⟨A5, c5, rfl, -⟩ := hle5
 unfold cellL at y5 ⊢
 have hg5 := hg4.trans h5g
 refine sI ?_
 intros; refine gr 69 75 ?_; refine sJ c4r9.eq_1 ?_
 refine (rtrm_ok l off _ G5 (LE.le hg5 hl0) hsm (by omega) ho _ _).mono ?_
 rintro r h' ⟨G6, rfl, h6g, cs6, rfl, hle6⟩
 have y6 := hle6
 obtain ⟨A6, c6, rfl, -⟩ := hle6
 unfold cellL at y6 ⊢
 have hg6 := hg5.trans h6g
 refine sI ?_
 intros; refine gr 75 82 ?_; refine sJ c4r10.eq_1 ?_
 refine (CReplace_ok l n bs _ _ G6 (LE.le hg6 hl0) hsm (by omega) hni (hbs0.le hg6 fun _ _ h => BE.le hg6 h) _ _).mono ?_
 rintro r h' ⟨G7, rfl, h7g, cs7, rfl, hle7⟩
 have y7 := hle7
 obtain ⟨A7, c7, rfl, -⟩ := hle7
 unfold cellL at y7 ⊢
 have hg7 := hg6.trans h7g
 refine sI ?_
 intros; refine gr 82 89 ?_; refine sJ c4r11.eq_1 ?_
 refine (rrep_ok l n bs _ _ G7 (LE.le hg7 hl0) hsm (by omega) hni (hbs0.le hg7 fun _ _ h => BE.le hg7 h) _ _).mono ?_
 rintro r h' ⟨G8, rfl, h8g, cs8, rfl, hle8⟩
 have y8 := hle8
 obtain ⟨A8, c8, rfl, -⟩ := hle8
 unfold cellL at y8 ⊢
 have hg8 := hg7.trans h8g
 refine sI ?_
 have t7 := h8g
 have t6 := h7g.trans t7
 have t5 := h6g.trans t6
 have t4 := h5g.trans t5
 have t3 := h4g.trans t4
 have t2 := h3g.trans t3
 have t1 := h2g.trans t2
 generalize appL l x = p1 at *
 generalize truL l off = p2 at *
 generalize trmL l off = p3 at *
 generalize repL l n bs = p4 at *
 have z1 := LSame_ok _ _ _ _ G8 (LE.le t1 y1) (LE.le t2 y2)
 rw [decide_eq_true rfl] at z1
 have q1 : decide (p1.2 = p1.2) = true := decide_eq_true rfl
 have z2 := LSame_ok _ _ _ _ G8 (LE.le t3 y3) (LE.le t4 y4)
 rw [decide_eq_true rfl] at z2
 have q2 : decide (p2.2 = p2.2) = true := decide_eq_true rfl
 have z3 := LSame_ok _ _ _ _ G8 (LE.le t5 y5) (LE.le t6 y6)
 rw [decide_eq_true rfl] at z3
 have q3 : decide (p3.2 = p3.2) = true := decide_eq_true rfl
 have z4 := LSame_ok _ _ _ _ G8 (LE.le t7 y7) y8
 rw [decide_eq_true rfl] at z4
 have q4 : decide (p4.2 = p4.2) = true := decide_eq_true rfl
 intros; refine gr 89 130 ?_; refine sJ c4r12.eq_1 ?_
 refine (z1 _ _).mono ?_; rintro _ _ ⟨rfl, rfl⟩; refine sI ?_
 refine sJ @q1 ?_
 refine (z2 _ _).mono ?_; rintro _ _ ⟨rfl, rfl⟩; refine sI ?_
 refine sJ @q2 ?_
 refine (z3 _ _).mono ?_; rintro _ _ ⟨rfl, rfl⟩; refine sI ?_
 refine sJ @q3 ?_
 refine (z4 _ _).mono ?_; rintro _ _ ⟨rfl, rfl⟩; refine sI ?_
 refine sJ @q4 ?_
 intros; refine rV ?_; simp only [push_cast, Nat.reduceBEq]
end Go.Proofs.YtppgnokhdpaljaaGreat
