/- Parts of a proof, 11 texts in one file. No condition. -/
import Derived.Test.YtfhheomeebejnaaM1
import Derived.Test.YtfhheomeebejnaaM2
import Derived.Test.YtfhheomeebejnaaM3
import Derived.Test.YtfhheomeebejnaaM4
import Derived.Test.YtfhheomeebejnaaM5
import Derived.Test.YtfhheomeebejnaaM6
import Derived.Test.YtfhheomeebejnaaM7

/- Bytes, part 51 of a proof: a segment's batches; plain. No condition. -/
set_option linter.unusedSimpArgs false
set_option linter.unusedVariables false
namespace Go.Proofs.Ytfhheomeebejnaa
open Go Go.Kx
structure Sg where
  base : Int
  bytes : List UInt8
deriving DecidableEq
/-- Batches, each behind the one ahead of it. -/
def ordB : Int → List Batch → Prop
  | _, [] => True
  | nx, x :: xs => nx ≤ x.base ∧ ordB (x.last + 1) xs
def nextB : Int → List Batch → Int
  | nx, [] => nx
  | _, x :: xs => nextB (x.last + 1) xs
/-- A batch stands ahead, behind what was. -/
def moreB (q : List UInt8) (nx : Int) : Prop := (getB q 0).2.2 = 0 ∧ nx ≤ (getB q 0).1.base
instance (q : List UInt8) (nx : Int) : Decidable (moreB q nx) := by unfold moreB; infer_instance
def scanF : Nat → Int → List UInt8 → List Batch
  | 0, _, _ => []
  | f + 1, nx, q => if moreB q nx then (getB q 0).1 :: scanF f ((getB q 0).1.last + 1) (q.drop (bytesB (getB q 0).1).length) else []
/-- What a segment's bytes are: batches, and a rest. -/
structure Scans (nx : Int) (q : List UInt8) (bs : List Batch) (r : List UInt8) : Prop where
  eq : q = allB bs ++ r
  ok : ∀ x ∈ bs, errB x = 0
  ord : ordB nx bs
  stop : ¬ moreB r (nextB nx bs)
def scanB (s : Sg) : List Batch := scanF s.bytes.length s.base s.bytes
def goodB (s : Sg) : Nat := (allB (scanB s)).length
def endB (s : Sg) : Int := nextB s.base (scanB s)
theorem allB_cons (x : Batch) (l : List Batch) : allB (x :: l) = bytesB x ++ allB l := rfl
theorem allB_app (a b : List Batch) : allB (a ++ b) = allB a ++ allB b := by simp [allB]
theorem nextB_app (nx : Int) (a b : List Batch) : nextB nx (a ++ b) = nextB (nextB nx a) b := by
  induction a generalizing nx with
  | nil => rfl
  | cons x a ih => exact ih _
theorem ordB_app (nx : Int) (a b : List Batch) : ordB nx (a ++ b) ↔ ordB nx a ∧ ordB (nextB nx a) b := by
  induction a generalizing nx with
  | nil => simp [ordB, nextB]
  | cons x a ih => simp only [List.cons_append, ordB, nextB, ih, and_assoc]
theorem getB_0 {q s : List UInt8} {x : Batch} (h0 : errB x = 0) (h : q = bytesB x ++ s) : getB q 0 = (x, ((bytesB x).length : Int), 0) := by
  have := getB_at (l := q) (a := 0) h0 h
  rw [Nat.zero_add] at this
  exact this
theorem more_ok {q : List UInt8} {nx : Int} (h : moreB q nx) : ∃ x s, getB q 0 = (x, ((bytesB x).length : Int), 0) ∧ q = bytesB x ++ s ∧ errB x = 0 ∧ nx ≤ x.base := by
  obtain ⟨h1, h2⟩ := h
  obtain ⟨b, s, e0, e1, e2, e3⟩ := getB_back h1
  have hb : b = 0 := by omega
  subst hb
  exact ⟨_, s, getB_0 e3 e1, e1, e3, h2⟩
theorem more_at {q s : List UInt8} {x : Batch} {nx : Int} (h0 : errB x = 0) (h : q = bytesB x ++ s) : moreB q nx ↔ nx ≤ x.base := by
  rw [moreB, getB_0 h0 h]
  simp
theorem scanF_spec : ∀ (f : Nat) (nx : Int) (q : List UInt8), q.length ≤ f → ∃ r, Scans nx q (scanF f nx q) r
  | 0, nx, q, h => by
    have hq : q = [] := List.eq_nil_of_length_eq_zero (by omega)
    subst hq
    refine ⟨[], ⟨rfl, fun x hx => (by cases hx), trivial, fun hm => ?_⟩⟩
    obtain ⟨x, s, -, e, -⟩ := more_ok hm
    have := bytesB_pos x
    have h2 := congrArg List.length e
    simp at h2
    omega
  | f + 1, nx, q, h => by
    unfold scanF
    split
    · rename_i hm
      obtain ⟨x, s, e1, e2, e3, e4⟩ := more_ok hm
      rw [e1]
      dsimp only
      have hp := bytesB_pos x
      have hd : q.drop (bytesB x).length = s := by rw [e2, List.drop_left]
      rw [hd]
      obtain ⟨r, hr⟩ := scanF_spec f (x.last + 1) s (by rw [e2, List.length_append] at h; omega)
      refine ⟨r, ⟨by rw [allB_cons, List.append_assoc, ← hr.eq, e2], fun y hy => ?_, ⟨e4, hr.ord⟩, hr.stop⟩⟩
      rcases List.mem_cons.1 hy with rfl | hy
      · exact e3
      · exact hr.ok y hy
    · rename_i hm
      exact ⟨q, ⟨rfl, fun x hx => (by cases hx), trivial, hm⟩⟩
theorem scan_spec (s : Sg) : ∃ r, Scans s.base s.bytes (scanB s) r := scanF_spec _ _ _ (Nat.le_refl _)
/-- There is one way alone to read them. -/
theorem Scans.uniq : ∀ {bs bs' : List Batch} {nx : Int} {q r r' : List UInt8}, Scans nx q bs r → Scans nx q bs' r' → bs = bs' ∧ r = r'
  | [], [], nx, q, r, r', h, h' => ⟨rfl, by have := h.eq.symm.trans h'.eq; exact this⟩
  | [], x :: bs', nx, q, r, r', h, h' => by
    have hq : q = r := h.eq
    subst hq
    exact absurd ((more_at (h'.ok x (.head _)) (by rw [h'.eq, allB_cons, List.append_assoc])).2 h'.ord.1) h.stop
  | x :: bs, [], nx, q, r, r', h, h' => by
    have hq : q = r' := h'.eq
    subst hq
    exact absurd ((more_at (h.ok x (.head _)) (by rw [h.eq, allB_cons, List.append_assoc])).2 h.ord.1) h'.stop
  | x :: bs, y :: bs', nx, q, r, r', h, h' => by
    have e1 : q = bytesB x ++ (allB bs ++ r) := by rw [h.eq, allB_cons, List.append_assoc]
    have e2 : q = bytesB y ++ (allB bs' ++ r') := by rw [h'.eq, allB_cons, List.append_assoc]
    have g1 := getB_0 (h.ok x (.head _)) e1
    have g2 := getB_0 (h'.ok y (.head _)) e2
    rw [g1] at g2
    have hxy : x = y := congrArg Prod.fst g2
    subst hxy
    rw [e1] at e2
    have e3 := List.append_cancel_left e2
    obtain ⟨rfl, rfl⟩ := Scans.uniq (nx := x.last + 1) (q := allB bs ++ r) ⟨rfl, fun z hz => h.ok z (.tail _ hz), h.ord.2, h.stop⟩ ⟨e3, fun z hz => h'.ok z (.tail _ hz), h'.ord.2, h'.stop⟩
    exact ⟨rfl, rfl⟩
theorem Scans.is {s : Sg} {bs : List Batch} {r : List UInt8} (h : Scans s.base s.bytes bs r) : scanB s = bs := by
  obtain ⟨r', h'⟩ := scan_spec s
  exact (h'.uniq h).1
/-- What is read at a place is what is read of what stands there. -/
theorem getB_drop {l : List UInt8} {a : Nat} : (getB l (a : Int)).1 = (getB (l.drop a) 0).1 ∧ (getB l (a : Int)).2.2 = (getB (l.drop a) 0).2.2 := by
  have h1 : getN l (a : Int) 4 = getN (l.drop a) 0 4 := by
    unfold getN
    rw [if_neg (show ¬ (a : Int) < 0 by omega), if_neg (show ¬ (0 : Int) < 0 by omega)]
    simp only [Int.toNat_natCast, Int.toNat_zero, List.drop_zero]
  have h2 : l.drop (a + 4) = (l.drop a).drop 4 := by rw [List.drop_drop]
  unfold getB
  rw [h1]
  simp only [Int.toNat_natCast, h2, Int.toNat_zero, Nat.zero_add]
  split
  · split
    · split
      · split
        · split <;> exact ⟨rfl, rfl⟩
        · exact ⟨rfl, rfl⟩
      · exact ⟨rfl, rfl⟩
    · exact ⟨rfl, rfl⟩
  · exact ⟨rfl, rfl⟩
theorem allB_take_le (l : List Batch) (k : Nat) : (allB (l.take k)).length ≤ (allB l).length := by
  conv => rhs; rw [← List.take_append_drop k l, allB_app, List.length_append]
  omega
theorem Scans.len {nx : Int} {q r : List UInt8} {bs : List Batch} (h : Scans nx q bs r) : 9 * bs.length ≤ (allB bs).length ∧ (allB bs).length ≤ q.length := by
  refine ⟨?_, by rw [h.eq, List.length_append]; omega⟩
  clear h
  induction bs with
  | nil => simp
  | cons x bs ih =>
    have := bytesB_pos x
    rw [allB_cons, List.length_append, List.length_cons]
    omega
/-- At the place of one of its batches. -/
theorem Scans.at_ {nx : Int} {q r : List UInt8} {bs : List Batch} (h : Scans nx q bs r) {k : Nat} {x : Batch} (hx : bs[k]? = some x) :
    getB q (((allB (bs.take k)).length : Nat) : Int) = (x, (((allB (bs.take (k + 1))).length : Nat) : Int), 0) ∧ nextB nx (bs.take k) ≤ x.base ∧ nextB nx (bs.take (k + 1)) = x.last + 1 ∧ errB x = 0 := by
  have hd : q.drop (allB (bs.take k)).length = bytesB x ++ (allB (bs.drop (k + 1)) ++ r) := by
    have := allB_drop hx
    rw [h.eq, List.drop_append_of_le_length (allB_take_le _ _), this, List.append_assoc]
  obtain ⟨hk, he⟩ := List.getElem?_eq_some_iff.1 hx
  have e1 : bs = bs.take k ++ (x :: bs.drop (k + 1)) := by
    conv => lhs; rw [← List.take_append_drop k bs, List.drop_eq_getElem_cons hk, he]
  have ho := h.ord
  rw [e1, ordB_app] at ho
  have h0 := h.ok x (List.mem_of_getElem? hx)
  refine ⟨?_, ho.2.1, ?_, h0⟩
  · rw [getB_at h0 hd, allB_take hx, List.length_append]
  · rw [List.take_add_one, hx]
    show nextB nx (bs.take k ++ [x]) = _
    rw [nextB_app]
    rfl
/-- Behind the last one. -/
theorem Scans.end_ {nx : Int} {q r : List UInt8} {bs : List Batch} (h : Scans nx q bs r) : ¬ (getB q (((allB bs).length : Nat) : Int)).2.2 = 0 ∨ (getB q (((allB bs).length : Nat) : Int)).1.base < nextB nx bs := by
  have hs := h.stop
  have hd := @getB_drop q (allB bs).length
  have e : q.drop (allB bs).length = r := by rw [h.eq, List.drop_left]
  rw [e] at hd
  rw [hd.1, hd.2]
  unfold moreB at hs
  by_cases h0 : (getB r 0).2.2 = 0
  · right
    have : ¬ nextB nx bs ≤ (getB r 0).1.base := fun hh => hs ⟨h0, hh⟩
    omega
  · exact .inl h0
end Go.Proofs.Ytfhheomeebejnaa

/- Bytes, part 52 of a proof: a segment's batches, gone through. No condition. -/
set_option linter.unusedSimpArgs false
set_option linter.unusedVariables false
namespace Go.Proofs.Ytfhheomeebejnaa
open Go Go.Kx
theorem F42 : Fun Try.prog 42 4 v42 c42 o42 := Fun.mk' Try.func42 Try.ntmps42 (by kernel_rfl) (by kernel_rfl) s42 q42
theorem F52 : Fun Try.prog 52 37 v52 c52 o52 := Fun.mk' Try.func52 Try.ntmps52 (by kernel_rfl) (by kernel_rfl) s52 q52
theorem F22 : Fun Try.prog 22 17 v22 c22 o22 := Fun.mk' Try.func22 Try.ntmps22 (by kernel_rfl) (by kernel_rfl) s22 q22
theorem F24 : Fun Try.prog 24 15 v24 c24 o24 := Fun.mk' Try.func24 Try.ntmps24 (by kernel_rfl) (by kernel_rfl) s24 q24
theorem rmR_no {s : Nat} : ∀ {L : List Kx.Item}, NoRegs L → rmR s L = L
  | [], _ => rfl
  | .reg s' cs :: L, h => absurd (.head _) (h s' cs)
  | .blk b cs :: L, h => congrArg (Kx.Item.blk b cs :: ·) (rmR_no (s := s) fun s cs hm => h s cs (.tail _ hm))
  | .row v e sz n xs :: L, h => congrArg (Kx.Item.row v e sz n xs :: ·) (rmR_no (s := s) fun s cs hm => h s cs (.tail _ hm))
  | .obj b o :: L, h => congrArg (Kx.Item.obj b o :: ·) (rmR_no (s := s) fun s cs hm => h s cs (.tail _ hm))
theorem gx_ne {h : H} {b b' : Nat} {c c' : List Value} (hs : List.Sublist [Kx.Item.blk b c, .blk b' c'] h.L) : GhostX h fun h' => h' = h ∧ ¬ b = b' := GhostX.fact fun β w s => by
  have hd : (dom β [Kx.Item.blk b c, .blk b' c']).Sublist (dom β h.L) := hs.filterMap _
  have := hd.nodup (List.nodup_append.1 s.nd).1
  simpa [dom, Item.block] using this
theorem cells_imp {α : Type} {E E' : α → List Value → Prop} {sz : Nat} {xs : List α} {ys : List Value} (h : Cells E sz xs ys) (hE : ∀ x cs, E x cs → E' x cs) : Cells E' sz xs ys := by
  induction h with
  | nil => exact .nil
  | cons h1 h2 _ ih => exact .cons (hE _ _ h1) h2 ih
/-- A segment's cells. -/
def cellS (s : Sg) (A : Option Addr) (c : Nat) : List Value := [.int .i64 s.base, .slice A s.bytes.length c]
def SE (G : Nat → Option Obj) (s : Sg) (cs : List Value) : Prop := ∃ A c, cs = cellS s A c ∧ SB G (.slice A s.bytes.length c) s.bytes ∧ I64 s.base
theorem SE.le {G G' : Nat → Option Obj} (hg : Gle G G') {s : Sg} {cs : List Value} (h : SE G s cs) : SE G' s cs := by
  obtain ⟨A, c, h1, h2, h3⟩ := h
  exact ⟨A, c, h1, SB.le h2 hg, h3⟩
/-- The k-th batch, and where it ends. -/
def EB (bs : List Batch) (G : Nat → Option Obj) (k : Nat) (args : Array Value) : Prop := ∃ x cs, bs[k]? = some x ∧ BE G x cs ∧ args = #[.agg cs.toArray, .int .i64 (((allB (bs.take (k + 1))).length : Nat) : Int)]
theorem last_i {x : Batch} (h : errB x = 0) : IntKind.i64.wrap (x.last + 1) = x.last + 1 := by
  obtain ⟨⟨-, f2, -⟩, -⟩ := (errB_ok h).1
  simp [rng] at f2
  rw [w64_id] <;> omega
theorem range_at {n k i : Nat} (h : (List.range n)[k]? = some i) : i = k ∧ k < n := by
  have h1 := (List.getElem?_eq_some_iff.1 h).1
  rw [List.length_range] at h1
  rw [List.getElem?_range h1] at h
  cases h
  exact ⟨rfl, h1⟩
theorem each1_iter (s : Sg) (A : Option Addr) (c b : Nat) (G0 : Nat → Option Obj) (hl : SB G0 (.slice A s.bytes.length c) s.bytes) (hb : s.bytes.length ≤ 1000000) (h0 : cellG G0 ⟨b, 0, none⟩ = some (.int .i64 s.base)) (h1 : cellG G0 ⟨b, 1, none⟩ = some (.slice A s.bytes.length c)) :
    IterH Try.prog 52 #[.pointer (some ⟨b, 0, none⟩)] (List.range (scanB s).length) (EB (scanB s)) G0 := by
  obtain ⟨r, hsc⟩ := scan_spec s
  generalize scanB s = bs at hsc
  intro yl I Ix G L hG hn hI hIx hmo hi0 hy L2 D
  have hargs : (#[.func (.yield yl) #[] #[]] ++ #[.pointer (some ⟨b, 0, none⟩)] : Array Value) = #[.func (.yield yl) #[] #[], .pointer (some ⟨b, 0, none⟩)] := rfl
  rw [hargs, List.length_range]
  refine (F52.calls (R := fun _ h => Gle G h.G ∧ (I bs.length h.G h.L ∨ ∃ i, i < bs.length ∧ Ix i h.G h.L)) (by simp) hn (go_of ?_) L2 D).mono ?_
  rotate_left
  · rintro v h' ⟨G', L', rfl, hn', hgg, hr⟩
    exact ⟨G', L', rfl, hgg, hn', hr⟩
  have e0 := cellG_le hG h0
  have e1 := cellG_le hG h1
  have hlG := SB.le hl hG
  have hlen := hsc.len
  unfold c52
  (intros; try refine go_st ?_); refine go_q 8 10 (by decide) ?_; (refine sJ c52r0.eq_1 ?_; try with_reducible exact True.intro)
  refine ⟨_, ⟨_, rfl, .g e0⟩, ?_⟩
  (refine sI ?_; try with_reducible exact True.intro)
  (intros; try refine go_st ?_)
  refine go_loop (fun e h => ∃ (t : Nat) (G' : Nat → Option Obj) (L' Lh : List Kx.Item), (t ≤ bs.length ∧ Gle G G' ∧ NoRegs L' ∧ I t G' L') ∧ e 3 = .int .i64 (((allB (bs.take t)).length : Nat) : Int) ∧ e 4 = .int .i64 (nextB s.base (bs.take t)) ∧ e 0 = .func (.yield yl) #[] #[] ∧ e 1 = .pointer (some ⟨b, 0, none⟩) ∧ h = ⟨G', Lh, []⟩ ∧ L'.Sublist Lh) (fun e h => s.bytes.length + 1 - iv (e 3)) ?_ ?_
  · exact ⟨0, G, L, L, ⟨Nat.zero_le _, .refl G, hn, hi0⟩, rfl, rfl, eE, eE, rfl, List.Sublist.refl _⟩
  rintro e h ⟨t, G', L', Lh, ⟨ht, hgg, hn', hI'⟩, e3, e4, e00, e11, rfl, hsub⟩
  refine go_keep [0, 1, 3, 4] ?_
  (refine sJ4 @e00 @e11 @e3 @e4 ?_; try with_reducible exact True.intro)
  (repeat (with_reducible intro _))
  refine go_ghost (ghost_sub hsub) ?_
  have hrm := rmR_no (s := 5) hn'
  have e1' := cellG_le hgg e1
  have hget := BGet_ok s.bytes (((allB (bs.take t)).length : Nat) : Int) _ G' (SB.le hlG hgg) hb
  unfold GetBR at hget
  have htk := allB_take_le bs t
  have hw1 : IntKind.i64.wrap (((allB (bs.take t)).length : Nat) : Int) = (((allB (bs.take t)).length : Nat) : Int) := by rw [w64_id] <;> omega
  (intros; try refine go_st ?_); refine go_r 10 18 (by decide) ?_; (refine sJ c52r1.eq_1 ?_; try with_reducible exact True.intro)
  refine ⟨_, ⟨_, rfl, .g e1'⟩, ?_⟩
  (refine sI ?_; try with_reducible exact True.intro)
  refine (hget _ _).mono ?_
  rintro v h' ⟨G1, rfl, hg1, cs, rfl, hbe⟩
  by_cases htl : t < bs.length
  · obtain ⟨x, hx⟩ : ∃ x, bs[t]? = some x := ⟨bs[t], List.getElem?_eq_getElem htl⟩
    obtain ⟨a1, a2, a3, a4⟩ := hsc.at_ hx
    rw [a1] at hbe ⊢
    dsimp only at hbe ⊢
    have hbe0 := hbe
    obtain ⟨B, d, rfl, -⟩ := hbe
    have hlt : (allB (bs.take t)).length < (allB (bs.take (t + 1))).length := by
      have := bytesB_pos x
      rw [allB_take hx, List.length_append]
      omega
    have hle := allB_take_le bs (t + 1)
    have hEB : EB bs G1 t #[.agg (cellH x (.slice B x.recs.length d)).toArray, .int .i64 (((allB (bs.take (t + 1))).length : Nat) : Int)] := ⟨x, _, hx, hbe0, rfl⟩
    unfold cellH at hbe0 hEB ⊢
    generalize hn1 : (allB (bs.take (t + 1))).length = n1 at *
    generalize (allB (bs.take t)).length = n0 at *
    have a2' : decide (x.base < nextB s.base (bs.take t)) = false := decide_eq_false (by omega)
    have hlw := last_i a4
    (refine sJ @hrm ?_; try with_reducible exact True.intro)
    have hz : decide ((0 : Int) ≠ 0) = false := by decide
    (intros; try refine go_st ?_); refine go_r 18 32 (by decide) ?_; (refine sJ3 c52r2.eq_1 @hz @a2' ?_; try with_reducible exact True.intro)
    refine .inr ⟨yl, rfl, ?_⟩
    refine YieldH.ghost (ghost_perm (List.perm_append_comm (l₁ := [_]))) ?_
    refine (hy t t _ G1 L' (List.getElem?_range htl) (hgg.trans hg1) hEB (hmo _ _ _ _ hg1 hI') [_] []).mono ?_
    rintro v h' ⟨G2, L3, rfl, hg2, hn2, hr⟩
    rcases hr with ⟨rfl, hr⟩ | ⟨rfl, hr⟩
    · (refine sI ?_; try with_reducible exact True.intro)
      (intros; try refine go_st ?_); refine go_c ?_; (refine sI ?_; try with_reducible exact True.intro)
      refine go_ghost (ghost_perm (List.perm_append_comm (l₂ := [_]))) ?_
      (intros; try refine go_st ?_); refine go_q 33 37 (by decide) ?_; (refine sJ2 c52r3.eq_1 @hlw ?_; try with_reducible exact True.intro)
      (intros; try refine go_st ?_)
      refine go_l ⟨⟨t + 1, G2, L3, _, ⟨by omega, (hgg.trans hg1).trans hg2, hn2, hr⟩, (eJ @hn1), (eJ @a3), eE, eE, rfl, .cons _ (List.Sublist.refl _)⟩, ?_⟩
      (refine sI ?_; try with_reducible exact True.intro)
      omega
    · (refine sI ?_; try with_reducible exact True.intro)
      (intros; try refine go_st ?_); refine go_c ?_; (refine sI ?_; try with_reducible exact True.intro)
      (intros; try refine go_st ?_)
      refine go_ret (retQ_o L3 rfl (List.sublist_append_left _ _) hn2 ?_)
      exact ⟨(hgg.trans hg1).trans hg2, .inr ⟨t, htl, hr⟩⟩
  · have htl : t = bs.length := by omega
    subst htl
    rw [List.take_length] at hget hbe ⊢
    have hend := hsc.end_
    generalize getB s.bytes (((allB bs).length : Nat) : Int) = q at *
    obtain ⟨x, nx, er⟩ := q
    dsimp only at hbe hend ⊢
    obtain ⟨B, d, rfl, -⟩ := hbe
    unfold cellH
    have hfin : Gle G G1 ∧ (I bs.length G1 L' ∨ ∃ i, i < bs.length ∧ Ix i G1 L') := ⟨hgg.trans hg1, .inl (hmo _ _ _ _ hg1 hI')⟩
    (refine sJ @hrm ?_; try with_reducible exact True.intro)
    (intros; try refine go_st ?_); refine go_r 18 32 (by decide) ?_; (refine sJ c52r2.eq_1 ?_; try with_reducible exact True.intro)
    refine gd (fun k1 => ?_) (fun k1 => ?_)
    · (refine sI ?_; try with_reducible exact True.intro)
      (intros; try refine go_st ?_); refine go_c ?_; (refine sI ?_; try with_reducible exact True.intro)
      (intros; try refine go_st ?_)
      exact go_ret (retQ_o L' rfl (.cons _ (List.Sublist.refl _)) hn' hfin)
    · have k1 : er = 0 := by simpa using k1
      have k2 : decide (x.base < nextB s.base bs) = true := decide_eq_true (by rcases hend with h | h; exact absurd k1 h; exact h)
      (refine sJ @k2 ?_; try with_reducible exact True.intro)
      (intros; try refine go_st ?_); refine go_c ?_; (refine sI ?_; try with_reducible exact True.intro)
      (intros; try refine go_st ?_)
      exact go_ret (retQ_o L' rfl (.cons _ (List.Sublist.refl _)) hn' hfin)
theorem each_ok (s : Sg) (cs : List Value) (G : Nat → Option Obj) (hs : SE G s cs) (hb : s.bytes.length ≤ 1000000) :
    FnD Try.prog 42 #[.agg cs.toArray] G (fun G' r => ∃ b, r = .func (.func 52) #[] #[.pointer (some ⟨b, 0, none⟩)] ∧ IterH Try.prog 52 #[.pointer (some ⟨b, 0, none⟩)] (List.range (scanB s).length) (EB (scanB s)) G') := by
  obtain ⟨A, c, rfl, hl, hi⟩ := hs
  refine F42.fnD (by simp) (go_of ?_)
  unfold c42 cellS
  (intros; try refine go_st ?_); refine go_r 0 0 (by decide) ?_; (refine sJ c42r0.eq_1 ?_; try with_reducible exact True.intro)
  intro b1 hb1
  (intros; try refine go_st ?_)
  refine go_gx gx_blk ?_
  rintro h' ⟨G1, rfl, hg1, hc1⟩
  have e0 := hc1 0 _ rfl
  have e1 := hc1 1 _ rfl
  rw [add_off] at e0 e1
  (intros; try refine go_st ?_); refine go_r 3 4 (by decide) ?_; (refine sJ c42r1.eq_1 ?_; try with_reducible exact True.intro)
  (intros; try refine go_st ?_)
  refine go_ret (retQ_v rfl ?_); simp only [push_cast, Nat.reduceBEq]
  exact ⟨b1, rfl, each1_iter s A c b1 G1 (SB.le hl hg1) hb e0 e1⟩
/-- What a scan tells: batches that are owned, and how many bytes they take. -/
def ScanR (s : Sg) (G' : Nat → Option Obj) (L' : List Kx.Item) (r : Value) : Prop := ∃ u zc, r = .tuple #[u, .int .i64 ((goodB s : Nat) : Int)] ∧ Cells (BE G') 10 (scanB s) zc ∧ L' = [.row u 27 10 (scanB s).length zc]
theorem Scan_ok (s : Sg) (cs : List Value) (G : Nat → Option Obj) (hs : SE G s cs) (hb : s.bytes.length ≤ 1000000) : FnO Try.prog 22 #[.agg cs.toArray] G [] (fun G' L' r => ScanR s G' L' r) := by
  have hs0 := hs
  obtain ⟨A, c, rfl, hl, hi⟩ := hs
  refine F22.fnO (by simp) noRegs_nil (go_of ?_)
  unfold c22
  unfold cellS at hs0 ⊢
  (intros; try refine go_st ?_); refine go_r 0 0 (by decide) ?_; (refine sJ c22r0.eq_1 ?_; try with_reducible exact True.intro)
  intro b1 hb1 b2 hb2 b3 hb3
  (intros; try refine go_st ?_)
  refine go_gx (gx_blk_at [_, _] _) ?_
  rintro h' ⟨G1, rfl, hg1, f1⟩
  have e0 := f1 0 _ rfl
  have e1 := f1 1 _ rfl
  rw [add_off] at e0 e1
  (intros; try refine go_st ?_); refine go_r 6 7 (by decide) ?_; (refine sJ c22r1.eq_1 ?_; try with_reducible exact True.intro)
  refine ⟨_, ⟨_, [.int .i64 s.base, .slice A s.bytes.length c], rfl, rfl, rfl, fun j u hu => .g (f1 j u hu)⟩, ?_⟩
  (refine sI ?_; try with_reducible exact True.intro)
  refine (each_ok s _ G1 (SE.le hg1 hs0) hb _ _).mono ?_
  rintro r h' ⟨G2, rfl, hg2, b, rfl, hit⟩
  obtain ⟨rr, hsc⟩ := scan_spec s
  have hSR : ∀ G' u zc, Cells (BE G') 10 (scanB s) zc → ScanR s G' [.row u 27 10 (scanB s).length zc] (.tuple #[u, .int .i64 (((allB (scanB s)).length : Nat) : Int)]) := fun G' u zc h => ⟨u, zc, rfl, h, rfl⟩
  generalize scanB s = bs at hit hsc hSR
  have hlen := hsc.len
  (refine sI ?_; try with_reducible exact True.intro)
  (intros; try refine go_st ?_)
  refine go_ghost (ghost_nil none 27 10) ?_
  refine go_rf (α := Nat) (fun k G' L' => ∃ u zc, L' = [.row u 27 10 (bs.take k).length zc, .blk b3 [.int .i64 (((allB (bs.take k)).length : Nat) : Int)], .blk b2 [u]] ∧ Cells (BE G') 10 (bs.take k) zc) (fun _ _ _ _ => False) (eE) F52.enters (noRegs_row (noRegs_blk (noRegs_blk noRegs_nil)))
    (fun i G G' L hg ⟨u, zc, h1, h2⟩ => ⟨u, zc, h1, cells_imp h2 fun _ _ h => BE.le hg h⟩) hit (fun G x args h => by obtain ⟨y, _, _, _, rfl⟩ := h; rfl) ⟨_, [], rfl, .nil⟩ ?_ ?_ ?_
  · rintro yl k i args G' L' hki hgl ⟨x, cs, hx, hbe, rfl⟩ ⟨u, zc, rfl, hzc⟩ _
    obtain ⟨rfl, hkl⟩ := range_at hki
    have hbe0 := hbe
    obtain ⟨B, d, rfl, -⟩ := hbe
    unfold cellH at hbe0 ⊢
    (refine sI ?_; try with_reducible exact True.intro)
    (intros; try refine go_st ?_); refine go_r 0 0 (by decide) ?_; (refine sJ c22r2.eq_1 ?_; try with_reducible exact True.intro)
    (intros; try refine go_st ?_); refine go_r 0 0 (by decide) ?_; (refine sJ c22r3.eq_1 ?_; try with_reducible exact True.intro)
    intro bb
    refine go_nil (rnd_a ?_)
    have htk : bs.take (i + 1) = bs.take i ++ [x] := by rw [List.take_add_one, hx]; rfl
    have hkl2 : (bs.take i).length ≤ bs.length := by rw [List.length_take]; omega
    (intros; try refine go_st ?_); refine go_r 10 15 (by decide) ?_; (refine sJ c22r4.eq_1 ?_; try with_reducible exact True.intro)
    refine ⟨_, ldN_blk (.tail _ (.tail _ (.tail _ (.head _)))) rfl, ?_⟩
    (refine sI ?_; try with_reducible exact True.intro)
    intro bk hbk
    refine app1 (L1 := [_]) (L2 := [_, _]) (E := BE G') (x := x) rfl hbe0 rfl (by simp [Value.oneCell']) hzc (by omega) (by omega) fun A' c' zc' hzc' => ?_
    rw [← htk] at hzc' ⊢
    (refine sI ?_; try with_reducible exact True.intro)
    refine stX_blk [_, _, _, _] [] rfl (by simp) ⟨rfl, rfl⟩ ?_
    (refine sI ?_; try with_reducible exact True.intro)
    refine stX_blk [_, _, _] [_] rfl (by simp) ⟨rfl, rfl⟩ ?_
    (refine sI ?_; try with_reducible exact True.intro)
    (intros; try refine go_st ?_)
    refine go_nil (rnd_n _ (.cons _ (.cons _ (List.Sublist.refl _))) (noRegs_row (noRegs_blk (noRegs_blk noRegs_nil))) ⟨_, zc', rfl, hzc'⟩)
  · rintro G' L' dd hgl ⟨u, zc, rfl, hzc⟩ _
    rw [List.length_range] at hzc ⊢
    rw [List.take_length] at hzc ⊢
    (intros; try refine go_st ?_)
    refine go_gx (gx_knowS (.head _)) ?_
    rintro h' ⟨rfl, A2, c2, rfl, -, -⟩
    refine go_gx (gx_ne (.cons _ (List.Sublist.refl _))) ?_
    rintro h' ⟨rfl, hne⟩
    (intros; try refine go_st ?_); refine go_w _ (List.Sublist.refl _) (by decide) ?_; (refine sJ c22r5.eq_1 ?_; try with_reducible exact True.intro)
    refine ⟨_, ldN_blk (.tail _ (.tail _ (.head _))) rfl, ?_⟩
    (refine sI ?_; try with_reducible exact True.intro)
    refine ⟨_, ldN_blk (.tail _ (.head _)) rfl, ?_⟩
    (refine sI ?_; try with_reducible exact True.intro)
    refine stX_blk [_, _] [] rfl (by simp) ⟨rfl, rfl⟩ ?_
    (refine sI ?_; try with_reducible exact True.intro)
    refine stX_blk [_] [_] rfl (by simp) ⟨rfl, rfl⟩ ?_
    (refine sI ?_; try with_reducible exact True.intro)
    (intros; try refine go_st ?_)
    refine go_ret (retQ_o (out := [.slice A2 bs.length c2, .int .i64 (((allB bs).length : Nat) : Int)]) _ ?_ (.cons_cons _ (List.nil_sublist _)) (noRegs_row noRegs_nil) (hSR G' _ _ hzc))
    simp [o22, resV, Kx.getB, blkO, ldC, Env.set, hne]
  · rintro ex i G' L' d _ _ h
    exact h.elim
theorem nextB_at {bs : List Batch} {k : Nat} {x : Batch} (nx : Int) (hx : bs[k]? = some x) : nextB nx (bs.take (k + 1)) = x.last + 1 := by
  rw [List.take_add_one, hx]
  show nextB nx (bs.take k ++ [x]) = _
  rw [nextB_app]
  rfl
theorem End_ok (s : Sg) (cs : List Value) (G : Nat → Option Obj) (hs : SE G s cs) (hb : s.bytes.length ≤ 1000000) : FnS Try.prog 24 #[.agg cs.toArray] G (.int .i64 (endB s)) := by
  have hs0 := hs
  obtain ⟨A, c, rfl, hl, hi⟩ := hs
  refine F24.fnS (by simp) (go_of ?_)
  unfold c24
  unfold cellS at hs0 ⊢
  (intros; try refine go_st ?_); refine go_r 0 0 (by decide) ?_; (refine sJ c24r0.eq_1 ?_; try with_reducible exact True.intro)
  intro b1 hb1
  (intros; try refine go_st ?_)
  refine go_gx gx_blk ?_
  rintro h' ⟨G1, rfl, hg1, f1⟩
  have e0 := f1 0 _ rfl
  rw [add_off] at e0
  (intros; try refine go_st ?_); refine go_r 5 7 (by decide) ?_; (refine sJ c24r1.eq_1 ?_; try with_reducible exact True.intro)
  refine ⟨_, ⟨_, rfl, .g e0⟩, ?_⟩
  (refine sI ?_; try with_reducible exact True.intro)
  intro b3 hb3
  refine stX_blk [] [] rfl (by simp) ⟨rfl, rfl⟩ ?_
  (refine sI ?_; try with_reducible exact True.intro)
  (intros; try refine go_st ?_); refine go_r 7 8 (by decide) ?_; (refine sJ c24r2.eq_1 ?_; try with_reducible exact True.intro)
  refine ⟨_, ⟨_, [.int .i64 s.base, .slice A s.bytes.length c], rfl, rfl, rfl, fun j u hu => .g (f1 j u hu)⟩, ?_⟩
  (refine sI ?_; try with_reducible exact True.intro)
  refine (each_ok s _ G1 (SE.le hg1 hs0) hb _ _).mono ?_
  rintro r h' ⟨G2, rfl, hg2, b, rfl, hit⟩
  obtain ⟨rr, hsc⟩ := scan_spec s
  have hend : endB s = nextB s.base (scanB s) := rfl
  generalize scanB s = bs at hit hsc hend
  (refine sI ?_; try with_reducible exact True.intro)
  (intros; try refine go_st ?_)
  refine go_rf (α := Nat) (fun k G' L' => L' = [.blk b3 [.int .i64 (nextB s.base (bs.take k))]]) (fun _ _ _ _ => False) (eE) F52.enters (noRegs_blk noRegs_nil)
    (fun i G G' L hg h => h) hit (fun G x args h => by obtain ⟨y, _, _, _, rfl⟩ := h; rfl) rfl ?_ ?_ ?_
  · rintro yl k i args G' L' hki hgl ⟨x, cs, hx, hbe, rfl⟩ rfl _
    obtain ⟨rfl, hkl⟩ := range_at hki
    obtain ⟨B, d, rfl, -⟩ := hbe
    have hlw := last_i (hsc.ok x (List.mem_of_getElem? hx))
    unfold cellH
    (refine sI ?_; try with_reducible exact True.intro)
    (intros; try refine go_st ?_); refine go_r 0 0 (by decide) ?_; (refine sJ c24r3.eq_1 ?_; try with_reducible exact True.intro)
    intro bb
    refine go_nil (rnd_a ?_)
    (intros; try refine go_st ?_); refine go_r 12 14 (by decide) ?_; (refine sJ2 c24r4.eq_1 @hlw ?_; try with_reducible exact True.intro)
    refine stX_blk [_] [] rfl (by simp) ⟨rfl, rfl⟩ ?_
    (refine sI ?_; try with_reducible exact True.intro)
    (intros; try refine go_st ?_)
    refine go_nil (rnd_n [.blk b3 [.int .i64 (x.last + 1)]] (.cons _ (List.Sublist.refl _)) (noRegs_blk noRegs_nil) ?_)
    rw [nextB_at s.base hx]
  · rintro G' L' dd hgl rfl _
    rw [List.length_range, List.take_length, ← hend]
    (intros; try refine go_st ?_); refine go_r 14 15 (by decide) ?_; (refine sJ c24r5.eq_1 ?_; try with_reducible exact True.intro)
    refine ⟨_, ldN_blk (.head _) rfl, ?_⟩
    (refine sI ?_; try with_reducible exact True.intro)
    (intros; try refine go_st ?_)
    refine go_ret (retQ_v rfl ?_); simp only [push_cast, Nat.reduceBEq]
  · rintro ex i G' L' d _ _ h
    exact h.elim
end Go.Proofs.Ytfhheomeebejnaa

/- Bytes, part 59 of a proof: what came in, opened: segments. No condition. -/
set_option linter.unusedSimpArgs false
set_option linter.unusedVariables false
namespace Go.Proofs.Ytfhheomeebejnaa
open Go Go.Kx Go.RowKit
theorem opens_seg (W : World) : Opens Try.prog W 24 (SE (allG W)) := fun H enc fuel cs x hx => by
  obtain ⟨hl, hf⟩ := opens_fields Try.underlying24 (by kernel_rfl) (by kernel_rfl) hx
  obtain ⟨v0, _, _, c0, t0⟩ := hf 0 _ rfl
  obtain ⟨v1, _, _, c1, t1⟩ := hf 1 _ rfl
  obtain ⟨n0, e0, w0⟩ := (opens_int Try.underlying3).at_ t0
  obtain ⟨n1, A, c, e1, w1⟩ := (opens_bytes W).at_ t1
  cases e0; cases e1
  refine ⟨⟨n0, n1⟩, A, c, ?_, ⟨A, c, rfl, w1⟩, wf_i64 w0⟩
  match cs, hl with
  | [_, _], _ => cases c0; cases c1; rfl
end Go.Proofs.Ytfhheomeebejnaa

/- Bytes, part 53 of a proof: a segment begun; bytes, put together. No condition. -/
set_option linter.unusedSimpArgs false
set_option linter.unusedVariables false
namespace Go.Proofs.Ytfhheomeebejnaa
open Go Go.Kx
theorem F45 : Fun Try.prog 45 13 v45 c45 o45 := Fun.mk' Try.func45 Try.ntmps45 (by kernel_rfl) (by kernel_rfl) s45 q45
theorem F36 : Fun Try.prog 36 9 v36 c36 o36 := Fun.mk' Try.func36 Try.ntmps36 (by kernel_rfl) (by kernel_rfl) s36 q36
theorem F37 : Fun Try.prog 37 9 v37 c37 o37 := Fun.mk' Try.func37 Try.ntmps37 (by kernel_rfl) (by kernel_rfl) s37 q37
theorem F21 : Fun Try.prog 21 10 v21 c21 o21 := Fun.mk' Try.func21 Try.ntmps21 (by kernel_rfl) (by kernel_rfl) s21 q21
theorem F49 : Fun Try.prog 49 27 v49 c49 o49 := Fun.mk' Try.func49 Try.ntmps49 (by kernel_rfl) (by kernel_rfl) s49 q49
theorem F39 : Fun Try.prog 39 36 v39 c39 o39 := Fun.mk' Try.func39 Try.ntmps39 (by kernel_rfl) (by kernel_rfl) s39 q39
theorem ownK_sl {α : Type} {P : Program} {f : FuncId} {args : Array Value} {G : Nat → Option Obj} {E : α → List Value → Prop} {et sz : Nat} {zs : List α} (hf : FnO P f args G [] (fun _ L' r => OwnL E et sz zs L' r)) :
    FnO P f args G [] (fun _ L' r => ∃ A c ys, r = .slice A zs.length c ∧ (zs.length ≤ c ∧ c ≤ maxLen) ∧ Cells E sz zs ys ∧ L' = [.row r et sz zs.length ys]) := fun L D =>
  (hf L D).gx fun v h' ⟨G', L', he, hg, ys, hc, hL⟩ => by
    subst he hL
    exact (gx_knowS (.head _)).mono fun h' ⟨h1, A, c, h2, h3, h4⟩ => ⟨G', _, h1, hg, A, c, ys, h2, ⟨h3, h4⟩, hc, rfl⟩
def noneS : Sg := ⟨0, []⟩
/-- A segment whose bytes are owned. -/
def OwnSg (s : Sg) (L' : List Kx.Item) (r : Value) : Prop := ∃ u zc, r = .agg #[.int .i64 s.base, u] ∧ L' = [.row u 5 1 s.bytes.length zc] ∧ Cells UE 1 s.bytes zc
/-- A segment whose bytes are owned, and why there is none. -/
def OwnSE (p : Sg × Int) (L' : List Kx.Item) (r : Value) : Prop := ∃ u zc, r = .tuple #[.agg #[.int .i64 p.1.base, u], .int .i64 p.2] ∧ L' = [.row u 5 1 p.1.bytes.length zc] ∧ Cells UE 1 p.1.bytes zc
def limO (n : Int) : Bool := decide (1 ≤ n) && decide (n ≤ 4096)
theorem based_ok (n : Int) (G : Nat → Option Obj) : FnS Try.prog 36 #[.int .i64 n] G (.bool (inO n)) := by
  refine F36.fnS (by simp) (go_of ?_)
  unfold c36
  (intros; try refine go_st ?_); refine go_r 0 0 (by decide) ?_; (refine sJ c36r0.eq_1 ?_; try with_reducible exact True.intro)
  (intros; try refine go_st ?_); refine go_r 3 9 (by decide) ?_; (refine sJ c36r1.eq_1 ?_; try with_reducible exact True.intro)
  refine gd (fun h => ?_) (fun h => ?_)
  · have h := of_decide_eq_true h
    (refine sI ?_; try with_reducible exact True.intro)
    (intros; try refine go_st ?_)
    refine go_ret (retQ_v rfl ?_); simp only [push_cast, Nat.reduceBEq]
    rw [inO, decide_eq_true h, Bool.true_and]
  · have h := of_decide_eq_false h
    (refine sI ?_; try with_reducible exact True.intro)
    (intros; try refine go_st ?_)
    refine go_ret (retQ_v rfl ?_); simp only [push_cast, Nat.reduceBEq]
    rw [inO, decide_eq_false h, Bool.false_and]
theorem limited_ok (n : Int) (G : Nat → Option Obj) : FnS Try.prog 37 #[.int .i64 n] G (.bool (limO n)) := by
  refine F37.fnS (by simp) (go_of ?_)
  unfold c37
  (intros; try refine go_st ?_); refine go_r 0 0 (by decide) ?_; (refine sJ c37r0.eq_1 ?_; try with_reducible exact True.intro)
  (intros; try refine go_st ?_); refine go_r 3 9 (by decide) ?_; (refine sJ c37r1.eq_1 ?_; try with_reducible exact True.intro)
  refine gd (fun h => ?_) (fun h => ?_)
  · have h := of_decide_eq_true h
    (refine sI ?_; try with_reducible exact True.intro)
    (intros; try refine go_st ?_)
    refine go_ret (retQ_v rfl ?_); simp only [push_cast, Nat.reduceBEq]
    rw [limO, decide_eq_true h, Bool.true_and]
  · have h := of_decide_eq_false h
    (refine sI ?_; try with_reducible exact True.intro)
    (intros; try refine go_st ?_)
    refine go_ret (retQ_v rfl ?_); simp only [push_cast, Nat.reduceBEq]
    rw [limO, decide_eq_false h, Bool.false_and]
def newS (base : Int) : Sg × Int := if inO base = true then (⟨base, []⟩, 0) else (noneS, 1)
theorem New_ok (base : Int) (G : Nat → Option Obj) : FnO Try.prog 21 #[.int .i64 base] G [] (fun _ L' r => OwnSE (newS base) L' r) := by
  refine F21.fnO (by simp) noRegs_nil (go_of ?_)
  unfold c21
  (intros; try refine go_st ?_); refine go_r 0 0 (by decide) ?_; (refine sJ c21r0.eq_1 ?_; try with_reducible exact True.intro)
  (intros; try refine go_st ?_); refine go_r 4 6 (by decide) ?_; (refine sJ c21r1.eq_1 ?_; try with_reducible exact True.intro)
  refine (based_ok _ _ _ _).mono ?_; rintro _ _ ⟨rfl, rfl⟩; (refine sI ?_; try with_reducible exact True.intro)
  (intros; try refine go_st ?_); refine go_c ?_; (refine sI ?_; try with_reducible exact True.intro)
  refine gb (fun h => ?_) (fun h => ?_)
  · have h : ¬ inO base = true := by simpa using h
    (intros; try refine go_st ?_); refine go_r 7 8 (by decide) ?_; (refine sJ c21r2.eq_1 ?_; try with_reducible exact True.intro)
    (intros; try refine go_st ?_)
    refine go_ghost (ghost_nil none 5 1) ?_
    refine go_ret (retQ_o _ rfl (.cons_cons _ (List.nil_sublist _)) (noRegs_row noRegs_nil) ?_)
    rw [newS, if_neg h]
    exact ⟨_, [], rfl, rfl, .nil⟩
  · have h : inO base = true := by simpa using h
    (repeat first | (with_reducible intro _) | refine go_skip ?_ | refine go_b ?_)
    (intros; try refine go_st ?_); refine go_r 8 10 (by decide) ?_; (refine sJ c21r3.eq_1 ?_; try with_reducible exact True.intro)
    (intros; try refine go_st ?_)
    refine go_ghost (ghost_nil none 5 1) ?_
    refine go_ret (retQ_o _ rfl (.cons_cons _ (List.nil_sublist _)) (noRegs_row noRegs_nil) ?_)
    rw [newS, if_pos h]
    exact ⟨_, [], rfl, rfl, .nil⟩
theorem Grow_ok (n : Nat) (G : Nat → Option Obj) (hn : n ≤ 1000000) : FnO Try.prog 49 #[.slice none 0 0, .int .i64 (n : Int)] G [] (fun _ L' r => OwnB [] L' r) := by
  refine F49.fnO (by simp) noRegs_nil (go_of ?_)
  unfold c49
  have w1 : IntKind.i64.wrap ((n : Int) - IntKind.i64.wrap (0 - 0)) = (n : Int) := by simp only [IntKind.wrap_i64]; omega
  have h0 : decide ((n : Int) < 0) = false := decide_eq_false (by omega)
  (intros; try refine go_st ?_); refine go_r 0 0 (by decide) ?_; (refine sJ c49r0.eq_1 ?_; try with_reducible exact True.intro)
  (intros; try refine go_st ?_); refine go_r 5 6 (by decide) ?_; (refine sJ2 c49r1.eq_1 @h0 ?_; try with_reducible exact True.intro)
  (intros; try refine go_st ?_); refine go_c ?_; (refine sI ?_; try with_reducible exact True.intro)
  (repeat first | (with_reducible intro _) | refine go_skip ?_ | refine go_b ?_)
  (intros; try refine go_st ?_); refine go_r 8 15 (by decide) ?_; (refine sJ2 c49r2.eq_1 @w1 ?_; try with_reducible exact True.intro)
  (intros; try refine go_st ?_); refine go_r 15 16 (by decide) ?_; (refine sJ c49r3.eq_1 ?_; try with_reducible exact True.intro)
  (repeat (with_reducible intro _))
  refine go_ghost (ghost_nil none 5 1) ?_
  refine go_cut (fun e h => ∃ A c m zc Lh, e 0 = .slice A 0 c ∧ h = ⟨G, Lh, []⟩ ∧ [Kx.Item.row (.slice A m c) 5 1 m zc].Sublist Lh) ?_ ?_
  · (intros; try refine go_st ?_); refine go_c ?_; (refine sI ?_; try with_reducible exact True.intro)
    refine gb (fun h1 => ?_) (fun h1 => ?_)
    · have h1 := of_decide_eq_true h1
      (intros; try refine go_st ?_); refine go_r 17 26 (by decide) ?_; (refine sJ c49r4.eq_1 ?_; try with_reducible exact True.intro)
      refine ⟨by omega, ?_⟩
      refine ⟨n, ⟨rfl, rfl⟩, ⟨by omega, by omega, by unfold maxLen; omega⟩, ?_⟩
      intro g c zs hg
      (refine sI ?_; try with_reducible exact True.intro)
      refine ⟨by omega, ?_⟩
      (refine sI ?_; try with_reducible exact True.intro)
      (intros; try refine go_st ?_)
      exact go_l ⟨_, c, n, zs, _, rfl, rfl, .cons_cons _ (List.nil_sublist _)⟩
    · (intros; try refine go_st ?_)
      exact go_l ⟨none, 0, 0, [], _, eE, rfl, List.Sublist.refl _⟩
  rintro e h ⟨A, c, m, zc, Lh, e0, rfl, hsub⟩
  refine go_keep [0] ?_
  (refine sJ @e0 ?_; try with_reducible exact True.intro)
  (repeat (with_reducible intro _))
  (repeat (with_reducible intro _)); try refine go_seq ?_
  refine go_ghost (ghost_sub hsub) ?_
  refine go_ghost (ghost_cut (L1 := []) (L2 := []) (m := 0) (Nat.zero_le _)) ?_
  (intros; try refine go_st ?_); refine go_r 26 27 (by decide) ?_; (refine sJ c49r5.eq_1 ?_; try with_reducible exact True.intro)
  (intros; try refine go_st ?_)
  refine go_ret (retQ_o _ rfl (List.Sublist.refl _) (noRegs_row noRegs_nil) ?_)
  refine ⟨[], .nil, ?_⟩
  simp
  rfl
theorem ahead_ok (s : Sg) (n : Nat) (cs : List Value) (G : Nat → Option Obj) (hs : SE G s cs) (hb : s.bytes.length ≤ 1000000) (hn : n ≤ s.bytes.length) :
    FnO Try.prog 45 #[.agg cs.toArray, .int .i64 (n : Int)] G [] (fun _ L' r => OwnSg ⟨s.base, s.bytes.take n⟩ L' r) := by
  obtain ⟨A, c, rfl, hl, hi⟩ := hs
  refine F45.fnO (by simp) noRegs_nil (go_of ?_)
  have hpre := SlV.pre n hl hn
  obtain ⟨A0, c0, he, h1, h2, h3⟩ := hl
  cases he
  unfold c45 cellS
  (intros; try refine go_st ?_); refine go_r 0 0 (by decide) ?_; (refine sJ c45r0.eq_1 ?_; try with_reducible exact True.intro)
  (intros; try refine go_st ?_); refine go_y _ (List.Sublist.refl _) (by decide) ?_; (refine sJ c45r1.eq_1 ?_; try with_reducible exact True.intro)
  refine ⟨by omega, ?_⟩
  refine (ownK_sl (Clone_ok _ _ G hpre (by simp; omega)) _ _).mono ?_
  rintro r h' ⟨G1, L', rfl, hg1, A1, c1, ys, rfl, -, hys, rfl⟩
  refine ⟨grow_L hg1 (.cons _ (List.Sublist.refl _)), ?_⟩
  (refine sI ?_; try with_reducible exact True.intro)
  (refine sJ c45r2.eq_1 ?_; try with_reducible exact True.intro)
  (intros; try refine go_st ?_)
  refine go_ret (retQ_o _ rfl (.cons_cons _ (List.nil_sublist _)) (noRegs_row noRegs_nil) ?_)
  exact ⟨_, ys, rfl, rfl, hys⟩
/-- A slice of bytes, as an element. -/
def EBs (G : Nat → Option Obj) (l : List UInt8) (cs : List Value) : Prop := ∃ v, cs = [v] ∧ SB G v l
theorem flat_take {ll : List (List UInt8)} {k : Nat} {l : List UInt8} (h : ll[k]? = some l) : (ll.take (k + 1)).flatten = (ll.take k).flatten ++ l := by
  rw [List.take_add_one, h]
  simp
theorem flat_le (ll : List (List UInt8)) (k : Nat) : (ll.take k).flatten.length ≤ ll.flatten.length := by
  conv => rhs; rw [← List.take_append_drop k ll, List.flatten_append, List.length_append]
  omega
theorem Concat_ok (ll : List (List UInt8)) (v : Value) (G : Nat → Option Obj) (hl : SlV G (EBs G) 1 v ll) (hb : ll.flatten.length ≤ 1000000) : FnO Try.prog 39 #[v] G [] (fun _ L' r => OwnB ll.flatten L' r) := by
  obtain ⟨A, c, rfl, hc, hm, hA⟩ := hl
  refine F39.fnO (by simp) noRegs_nil (go_of ?_)
  unfold c39
  (intros; try refine go_st ?_); refine go_r 0 0 (by decide) ?_; (refine sJ c39r0.eq_1 ?_; try with_reducible exact True.intro)
  (intros; try refine go_st ?_); refine go_r 0 0 (by decide) ?_; (refine sJ c39r1.eq_1 ?_; try with_reducible exact True.intro)
  (intros; try refine go_st ?_); refine go_r 0 0 (by decide) ?_; (refine sJ c39r2.eq_1 ?_; try with_reducible exact True.intro)
  (repeat (with_reducible intro _))
  (repeat (with_reducible intro _)); try refine go_seq ?_
  refine go_cut (fun e h => e 3 = .int .i64 ((ll.flatten.length : Nat) : Int) ∧ e 0 = .slice A ll.length c ∧ h = ⟨G, [], []⟩) ?_ ?_
  · (intros; try refine go_st ?_)
    refine go_loop (fun e h => ∃ k : Nat, k ≤ ll.length ∧ e 11 = .int .i64 k ∧ e 10 = .int .i64 ll.length ∧ e 9 = .slice A ll.length c ∧ e 0 = .slice A ll.length c ∧ e 3 = .int .i64 (((ll.take k).flatten.length : Nat) : Int) ∧ h = ⟨G, [], []⟩) (fun e h => ll.length - iv (e 11)) ?_ ?_
    · exact ⟨0, Nat.zero_le _, eE, eE, eE, eE, rfl, rfl⟩
    rintro e h ⟨k, hk, e11, e10, e9, e0, e3, rfl⟩
    refine go_keep [0, 3, 9, 10, 11] ?_
    (refine sJ5 @e0 @e3 @e9 @e10 @e11 ?_; try with_reducible exact True.intro)
    (intros; try refine go_st ?_); refine go_r 0 0 (by decide) ?_; (refine sJ c39r3.eq_1 ?_; try with_reducible exact True.intro)
    (intros; try refine go_st ?_); refine go_c ?_; (refine sI ?_; try with_reducible exact True.intro)
    refine gb (fun ht => ?_) (fun ht => ?_)
    · have ht : k < ll.length := by have := of_decide_eq_true ht; omega
      have hw := inc_i k c (by omega) hm
      obtain ⟨x, hx⟩ : ∃ x, ll[k]? = some x := ⟨ll[k], List.getElem?_eq_getElem (by omega)⟩
      have h1 := flat_take hx
      have h2 := flat_le ll (k + 1)
      have h3 : (ll.take (k + 1)).flatten.length = (ll.take k).flatten.length + x.length := by rw [h1, List.length_append]
      generalize hn1 : (ll.take (k + 1)).flatten.length = n1 at *
      generalize (ll.take k).flatten.length = n0 at *
      have hw2 : IntKind.i64.wrap ((n0 : Int) + (x.length : Int)) = (n1 : Int) := by rw [w64_id] <;> omega
      have hneg : decide ((n1 : Int) < 0) = false := decide_eq_false (by omega)
      (repeat first | (with_reducible intro _) | refine go_skip ?_ | refine go_b ?_)
      (intros; try refine go_st ?_); refine go_r 13 15 (by decide) ?_; (refine sJ c39r4.eq_1 ?_; try with_reducible exact True.intro)
      refine hA.x_l1 hx rfl rfl ?_
      rintro a1 ha1 u ⟨u', hu, B, d, rfl, -⟩
      cases hu
      (refine sI ?_; try with_reducible exact True.intro)
      (intros; try refine go_st ?_); refine go_r 15 19 (by decide) ?_; (refine sJ2 c39r5.eq_1 @hw2 ?_; try with_reducible exact True.intro)
      (intros; try refine go_st ?_); refine go_r 19 20 (by decide) ?_; (refine sJ2 c39r6.eq_1 @hneg ?_; try with_reducible exact True.intro)
      (intros; try refine go_st ?_); refine go_c ?_; (refine sI ?_; try with_reducible exact True.intro)
      (repeat first | (with_reducible intro _) | refine go_skip ?_ | refine go_b ?_)
      (intros; try refine go_st ?_); refine go_r 22 23 (by decide) ?_; (refine sJ2 c39r7.eq_1 @hw ?_; try with_reducible exact True.intro)
      (intros; try refine go_st ?_)
      refine go_l ⟨⟨k + 1, by omega, eE, eE, eE, eE, (eJ @hn1), rfl⟩, ?_⟩
      (refine sI ?_; try with_reducible exact True.intro)
      omega
    · have ht : k = ll.length := by have := of_decide_eq_false ht; omega
      subst ht
      have htk : ll.take ll.length = ll := List.take_length
      refine go_exit ?_
      (refine sI ?_; try with_reducible exact True.intro)
      (repeat first | (with_reducible intro _) | refine go_skip ?_ | refine go_b ?_)
      exact go_l ⟨(eJ @htk), eE, rfl⟩
  rintro e h ⟨e3, e0, rfl⟩
  refine go_keep [0, 3] ?_
  (refine sJ2 @e0 @e3 ?_; try with_reducible exact True.intro)
  (repeat (with_reducible intro _))
  (intros; try refine go_st ?_); refine go_r 23 25 (by decide) ?_; (refine sJ c39r8.eq_1 ?_; try with_reducible exact True.intro)
  refine (ownK_sl (Grow_ok ll.flatten.length G hb) _ []).mono ?_
  rintro r h' ⟨G1, L', rfl, hg1, A1, c1, ys, rfl, -, hys, rfl⟩
  (refine sI ?_; try with_reducible exact True.intro)
  (intros; try refine go_st ?_); refine go_r 0 0 (by decide) ?_; (refine sJ c39r9.eq_1 ?_; try with_reducible exact True.intro)
  (repeat (with_reducible intro _))
  have hA1 := hA.le hg1 (E' := EBs G1) fun _ _ ⟨u, h1, h2⟩ => ⟨u, h1, SB.le h2 hg1⟩
  refine go_cut (fun e h => ∃ u zc, Cells UE 1 ll.flatten zc ∧ e 6 = u ∧ h = ⟨G1, [.row u 5 1 ll.flatten.length zc], []⟩) ?_ ?_
  · (intros; try refine go_st ?_)
    refine go_loop (fun e h => ∃ (k : Nat) (u : Value) (zc : List Value), (k ≤ ll.length ∧ Cells UE 1 (ll.take k).flatten zc) ∧ e 27 = .int .i64 k ∧ e 26 = .int .i64 ll.length ∧ e 25 = .slice A ll.length c ∧ e 6 = u ∧ h = ⟨G1, [.row u 5 1 (ll.take k).flatten.length zc], []⟩) (fun e h => ll.length - iv (e 27)) ?_ ?_
    · exact ⟨0, _, ys, ⟨Nat.zero_le _, hys⟩, eE, eE, eE, eE, rfl⟩
    rintro e h ⟨k, u, zc, ⟨hk, hzc⟩, e27, e26, e25, e6, rfl⟩
    refine go_keep [6, 25, 26, 27] ?_
    (refine sJ4 @e6 @e25 @e26 @e27 ?_; try with_reducible exact True.intro)
    (intros; try refine go_st ?_); refine go_r 0 0 (by decide) ?_; (refine sJ c39r10.eq_1 ?_; try with_reducible exact True.intro)
    (intros; try refine go_st ?_); refine go_c ?_; (refine sI ?_; try with_reducible exact True.intro)
    refine gb (fun ht => ?_) (fun ht => ?_)
    · have ht : k < ll.length := by have := of_decide_eq_true ht; omega
      have hw := inc_i k c (by omega) hm
      obtain ⟨x, hx⟩ : ∃ x, ll[k]? = some x := ⟨ll[k], List.getElem?_eq_getElem (by omega)⟩
      have h1 := flat_take hx
      have h2 := flat_le ll (k + 1)
      have h3 : (ll.take (k + 1)).flatten.length = (ll.take k).flatten.length + x.length := by rw [h1, List.length_append]
      (repeat first | (with_reducible intro _) | refine go_skip ?_ | refine go_b ?_)
      (intros; try refine go_st ?_); refine go_r 29 31 (by decide) ?_; (refine sJ c39r11.eq_1 ?_; try with_reducible exact True.intro)
      refine hA1.x_l1 hx rfl rfl ?_
      rintro a1 ha1 u1 ⟨u', hu, hsb⟩
      cases hu
      (refine sI ?_; try with_reducible exact True.intro)
      (intros; try refine go_st ?_); refine go_r 31 34 (by decide) ?_; (refine sJ c39r12.eq_1 ?_; try with_reducible exact True.intro)
      refine apX_v (L1 := []) (.inl rfl) hsb rfl UE1 (by unfold maxLen; omega) fun ys1 A2 c2 hc2 => ?_
      have hh := hzc.app hc2
      rw [← h1] at hh
      rw [← h3]
      (refine sI ?_; try with_reducible exact True.intro)
      (repeat first | (with_reducible intro _) | refine go_skip ?_ | refine go_b ?_)
      (intros; try refine go_st ?_); refine go_r 34 35 (by decide) ?_; (refine sJ2 c39r13.eq_1 @hw ?_; try with_reducible exact True.intro)
      (intros; try refine go_st ?_)
      refine go_l ⟨⟨k + 1, _, _, ⟨by omega, hh⟩, eE, eE, eE, eE, rfl⟩, ?_⟩
      (refine sI ?_; try with_reducible exact True.intro)
      omega
    · have ht : k = ll.length := by have := of_decide_eq_false ht; omega
      subst ht
      rw [List.take_length] at hzc ⊢
      refine go_exit ?_
      (refine sI ?_; try with_reducible exact True.intro)
      (repeat first | (with_reducible intro _) | refine go_skip ?_ | refine go_b ?_)
      exact go_l ⟨u, zc, hzc, eE, rfl⟩
  rintro e h ⟨u, zc, hzc, e6, rfl⟩
  refine go_keep [6] ?_
  (refine sJ @e6 ?_; try with_reducible exact True.intro)
  (repeat (with_reducible intro _))
  (intros; try refine go_st ?_); refine go_r 35 36 (by decide) ?_; (refine sJ c39r14.eq_1 ?_; try with_reducible exact True.intro)
  (intros; try refine go_st ?_)
  refine go_ret (retQ_o _ rfl (List.Sublist.refl _) (noRegs_row noRegs_nil) ?_)
  exact ⟨zc, hzc, rfl⟩
end Go.Proofs.Ytfhheomeebejnaa

/- Bytes, part 54 of a proof: a batch put behind a segment. No condition. -/
set_option linter.unusedSimpArgs false
set_option linter.unusedVariables false
namespace Go.Proofs.Ytfhheomeebejnaa
open Go Go.Kx
theorem F16 : Fun Try.prog 16 69 v16 c16 o16 := Fun.mk' Try.func16 Try.ntmps16 (by kernel_rfl) (by kernel_rfl) s16 q16
def appS (s : Sg) (x : Batch) (limit : Int) : Sg × Int :=
  if goodB s = s.bytes.length ∧ inO s.base = true ∧ limO limit = true then
    if errB x = 0 then
      if x.base < endB s then (noneS, 71)
      else if limit < ((s.bytes.length + (bytesB x).length : Nat) : Int) then (noneS, 70)
      else (⟨s.base, s.bytes ++ bytesB x⟩, 0)
    else (noneS, errB x)
  else (noneS, 1)
theorem appS_1 {s : Sg} {x : Batch} {limit : Int} (h : ¬ (goodB s = s.bytes.length ∧ inO s.base = true ∧ limO limit = true)) : appS s x limit = (noneS, 1) := if_neg h
theorem appS_e {s : Sg} {x : Batch} {limit : Int} (h : goodB s = s.bytes.length ∧ inO s.base = true ∧ limO limit = true) (h1 : ¬ errB x = 0) : appS s x limit = (noneS, errB x) := by rw [appS, if_pos h, if_neg h1]
theorem appS_o {s : Sg} {x : Batch} {limit : Int} (h : goodB s = s.bytes.length ∧ inO s.base = true ∧ limO limit = true) (h1 : errB x = 0) (h2 : x.base < endB s) : appS s x limit = (noneS, 71) := by rw [appS, if_pos h, if_pos h1, if_pos h2]
theorem appS_r {s : Sg} {x : Batch} {limit : Int} (h : goodB s = s.bytes.length ∧ inO s.base = true ∧ limO limit = true) (h1 : errB x = 0) (h2 : ¬ x.base < endB s) (h3 : limit < ((s.bytes.length + (bytesB x).length : Nat) : Int)) : appS s x limit = (noneS, 70) := by rw [appS, if_pos h, if_pos h1, if_neg h2, if_pos h3]
theorem appS_0 {s : Sg} {x : Batch} {limit : Int} (h : goodB s = s.bytes.length ∧ inO s.base = true ∧ limO limit = true) (h1 : errB x = 0) (h2 : ¬ x.base < endB s) (h3 : ¬ limit < ((s.bytes.length + (bytesB x).length : Nat) : Int)) : appS s x limit = (⟨s.base, s.bytes ++ bytesB x⟩, 0) := by rw [appS, if_pos h, if_pos h1, if_neg h2, if_neg h3]
theorem goodB_le (s : Sg) : goodB s ≤ s.bytes.length := by
  obtain ⟨r, h⟩ := scan_spec s
  exact h.len.2
theorem Append_ok (s : Sg) (x : Batch) (limit : Int) (cs ds : List Value) (G : Nat → Option Obj) (hs : SE G s cs) (hb : s.bytes.length ≤ 100000) (hx : BE G x ds) (hi : I64 limit) :
    FnO Try.prog 16 #[.agg cs.toArray, .agg ds.toArray, .int .i64 limit] G [] (fun _ L' r => OwnSE (appS s x limit) L' r) := by
  have hscan := Scan_ok s cs G hs (by omega)
  have hput := BPut_ok x ds G hx
  have hs0 := hs
  have hx0 := hx
  obtain ⟨A, c, rfl, hl, hib⟩ := hs
  obtain ⟨B, d, rfl, -⟩ := hx
  have hgl := goodB_le s
  refine F16.fnO (by simp) noRegs_nil (go_of ?_)
  unfold c16
  unfold cellS at hscan hs0 ⊢
  unfold cellH at hput hx0 ⊢
  (intros; try refine go_st ?_); refine go_r 0 0 (by decide) ?_; (refine sJ c16r0.eq_1 ?_; try with_reducible exact True.intro)
  (intros; try refine go_st ?_); refine go_r 12 17 (by decide) ?_; (refine sJ c16r1.eq_1 ?_; try with_reducible exact True.intro)
  refine (hscan _ _).mono ?_
  rintro r h' ⟨G1, L', rfl, hg1, u, zc, rfl, -, rfl⟩
  (refine sI ?_; try with_reducible exact True.intro)
  (repeat (with_reducible intro _))
  refine go_ghost (ghost_sub (.cons _ (List.Sublist.refl _))) ?_
  (repeat (with_reducible intro _)); try refine go_seq ?_
  have hbad : ∀ (fr : List Td) (e : Env) (X : List Kx.Item) (Y : List Value), ¬ (goodB s = s.bytes.length ∧ inO s.base = true ∧ limO limit = true) → go none Try.prog 69 v16.1 v16.2 (retQ o16 fun v h => OwnSE (appS s x limit) h.L v) (Td.s ((SC.reg false c16r3).seq .ret) :: fr) e ⟨G1, .reg 6 [.int .i64 0, .slice none 0 0] :: X, []⟩ := fun fr e X Y hn => by
    (intros; try refine go_st ?_); refine go_r 33 34 (by decide) ?_; (refine sJ c16r3.eq_1 ?_; try with_reducible exact True.intro)
    (intros; try refine go_st ?_)
    refine go_ghost (ghost_nil none 5 1) ?_
    refine go_ret (retQ_o _ rfl (.cons_cons _ (List.nil_sublist _)) (noRegs_row noRegs_nil) ?_)
    rw [appS_1 hn]
    exact ⟨_, [], rfl, rfl, .nil⟩
  (intros; try refine go_st ?_); refine go_r 17 32 (by decide) ?_; (refine sJ c16r2.eq_1 ?_; try with_reducible exact True.intro)
  refine gd (fun k1 => ?_) (fun k1 => ?_)
  · (refine sI ?_; try with_reducible exact True.intro)
    (intros; try refine go_st ?_); refine go_c ?_; (refine sI ?_; try with_reducible exact True.intro)
    exact hbad _ _ _ [] fun h => of_decide_eq_true k1 (by rw [h.1])
  have k1 : goodB s = s.bytes.length := by have := of_decide_eq_false k1; omega
  (refine sI ?_; try with_reducible exact True.intro)
  refine (based_ok _ _ _ _).mono ?_; rintro _ _ ⟨rfl, rfl⟩; (refine sI ?_; try with_reducible exact True.intro)
  refine gd (fun k2 => ?_) (fun k2 => ?_)
  · (refine sI ?_; try with_reducible exact True.intro)
    (intros; try refine go_st ?_); refine go_c ?_; (refine sI ?_; try with_reducible exact True.intro)
    exact hbad _ _ _ [] fun h => by rw [h.2.1] at k2; cases k2
  have k2 : inO s.base = true := by simpa using k2
  (refine sI ?_; try with_reducible exact True.intro)
  refine (limited_ok _ _ _ _).mono ?_; rintro _ _ ⟨rfl, rfl⟩; (refine sI ?_; try with_reducible exact True.intro)
  (intros; try refine go_st ?_); refine go_c ?_; (refine sI ?_; try with_reducible exact True.intro)
  refine gb (fun k3 => ?_) (fun k3 => ?_)
  · exact hbad _ _ _ [] fun h => by rw [h.2.2] at k3; cases k3
  have k3 : limO limit = true := by simpa using k3
  clear hbad
  have hok : goodB s = s.bytes.length ∧ inO s.base = true ∧ limO limit = true := ⟨k1, k2, k3⟩
  (repeat first | (with_reducible intro _) | refine go_skip ?_ | refine go_b ?_)
  have hput := BPut_ok x _ G1 (BE.le hg1 hx0)
  (intros; try refine go_st ?_); refine go_r 34 39 (by decide) ?_; (refine sJ c16r4.eq_1 ?_; try with_reducible exact True.intro)
  refine (hput _ _).mono ?_
  rintro r h' ⟨G2, L', rfl, hg2, w, rfl, ys, hys, rfl⟩
  (refine sI ?_; try with_reducible exact True.intro)
  (repeat (with_reducible intro _)); try refine go_seq ?_
  refine go_gx (gx_slv_at [] _ (by decide) hys) ?_
  rintro h' ⟨G3, rfl, hg3, hv3⟩
  have hg03 := hg1.trans (hg2.trans hg3)
  by_cases he : errB x = 0
  rotate_left
  · rw [putB_n he] at hv3 ⊢
    (intros; try refine go_st ?_); refine go_r 40 42 (by decide) ?_; (refine sJ c16r5.eq_1 ?_; try with_reducible exact True.intro)
    (intros; try refine go_st ?_); refine go_c ?_; (refine sI ?_; try with_reducible exact True.intro)
    refine gb (fun k4 => ?_) (fun k4 => absurd (of_decide_eq_false k4) (by simpa using he))
    (intros; try refine go_st ?_); refine go_r 42 44 (by decide) ?_; (refine sJ c16r6.eq_1 ?_; try with_reducible exact True.intro)
    (intros; try refine go_st ?_)
    refine go_ghost (ghost_nil none 5 1) ?_
    refine go_ret (retQ_o _ rfl (.cons_cons _ (List.nil_sublist _)) (noRegs_row noRegs_nil) ?_)
    rw [appS_e hok he]
    exact ⟨_, [], rfl, rfl, .nil⟩
  rw [putB_0 he] at hv3 ⊢
  have hv3 : SB G3 w (bytesB x) := hv3
  have hbl := (errB_ok he).2
  have hz : decide ((0 : Int) ≠ 0) = false := by decide
  (intros; try refine go_st ?_); refine go_r 40 42 (by decide) ?_; (refine sJ2 c16r5.eq_1 @hz ?_; try with_reducible exact True.intro)
  (intros; try refine go_st ?_); refine go_c ?_; (refine sI ?_; try with_reducible exact True.intro)
  (repeat first | (with_reducible intro _) | refine go_skip ?_ | refine go_b ?_)
  (intros; try refine go_st ?_); refine go_x _ (List.Sublist.refl _) (by decide) ?_; (refine sJ c16r7.eq_1 ?_; try with_reducible exact True.intro)
  refine (End_ok s _ G3 (SE.le hg03 hs0) (by omega) _ _).mono ?_; rintro _ _ ⟨rfl, rfl⟩; (refine sI ?_; try with_reducible exact True.intro)
  (intros; try refine go_st ?_); refine go_c ?_; (refine sI ?_; try with_reducible exact True.intro)
  refine gb (fun k5 => ?_) (fun k5 => ?_)
  · have k5 := of_decide_eq_true k5
    (intros; try refine go_st ?_); refine go_r 50 51 (by decide) ?_; (refine sJ c16r8.eq_1 ?_; try with_reducible exact True.intro)
    (intros; try refine go_st ?_)
    refine go_ghost (ghost_nil none 5 1) ?_
    refine go_ret (retQ_o _ rfl (.cons_cons _ (List.nil_sublist _)) (noRegs_row noRegs_nil) ?_)
    rw [appS_o hok he k5]
    exact ⟨_, [], rfl, rfl, .nil⟩
  have k5 := of_decide_eq_false k5
  have hw : IntKind.i64.wrap ((s.bytes.length : Int) + ((bytesB x).length : Int)) = ((s.bytes.length + (bytesB x).length : Nat) : Int) := by rw [w64_id] <;> omega
  have hsb3 := hv3
  obtain ⟨A3, c3, rfl, -⟩ := hv3
  (intros; try refine go_st ?_); refine go_r 53 60 (by decide) ?_; (refine sJ2 c16r9.eq_1 @hw ?_; try with_reducible exact True.intro)
  (intros; try refine go_st ?_); refine go_c ?_; (refine sI ?_; try with_reducible exact True.intro)
  refine gb (fun k6 => ?_) (fun k6 => ?_)
  · have k6 := of_decide_eq_true k6
    (intros; try refine go_st ?_); refine go_r 60 61 (by decide) ?_; (refine sJ c16r10.eq_1 ?_; try with_reducible exact True.intro)
    (intros; try refine go_st ?_)
    refine go_ghost (ghost_nil none 5 1) ?_
    refine go_ret (retQ_o _ rfl (.cons_cons _ (List.nil_sublist _)) (noRegs_row noRegs_nil) ?_)
    rw [appS_r hok he k5 k6]
    exact ⟨_, [], rfl, rfl, .nil⟩
  have k6 := of_decide_eq_false k6
  have h0 := appS_0 hok he k5 k6
  have hll : Cells (EBs G3) 1 [s.bytes, bytesB x] [.slice A s.bytes.length c, .slice A3 (bytesB x).length c3] := .cons (cs := [_]) ⟨_, rfl, SB.le hl hg03⟩ rfl (.one ⟨_, rfl, hsb3⟩ rfl)
  (repeat first | (with_reducible intro _) | refine go_skip ?_ | refine go_b ?_)
  (intros; try refine go_st ?_); refine go_y _ (List.Sublist.refl _) (by decide) ?_; (refine sJ c16r11.eq_1 ?_; try with_reducible exact True.intro)
  intro bk hbk
  refine ⟨grow_L (fun _ _ h => h) (.cons _ (List.Sublist.refl _)), ?_⟩
  refine callsH_gx F39.enters (gx_slv_at [] _ (by decide) hll) ?_
  rintro h' ⟨G5, rfl, hg5, hv5⟩
  refine (ownK_sl (Concat_ok [s.bytes, bytesB x] _ G5 (hv5.le (.refl _) fun _ _ ⟨v, h1, h2⟩ => ⟨v, h1, SB.le h2 hg5⟩) (by simp; omega)) _ _).mono ?_
  rintro r h' ⟨G6, L', rfl, hg6, A6, c6, zc6, rfl, -, hzc6, rfl⟩
  have hfl : [s.bytes, bytesB x].flatten = s.bytes ++ bytesB x := by simp
  rw [hfl] at hzc6 ⊢
  refine ⟨grow_L (hg5.trans hg6) (.cons _ (List.Sublist.refl _)), ?_⟩
  (refine sI ?_; try with_reducible exact True.intro)
  (refine sJ c16r12.eq_1 ?_; try with_reducible exact True.intro)
  (intros; try refine go_st ?_)
  refine go_ret (retQ_o _ rfl (.cons_cons _ (List.nil_sublist _)) (noRegs_row noRegs_nil) ?_)
  rw [h0]
  exact ⟨_, zc6, rfl, rfl, hzc6⟩
end Go.Proofs.Ytfhheomeebejnaa

/- Bytes, part 55 of a proof: segments made, mended and cut. No condition. -/
set_option linter.unusedSimpArgs false
set_option linter.unusedVariables false
namespace Go.Proofs.Ytfhheomeebejnaa
open Go Go.Kx
theorem F32 : Fun Try.prog 32 44 v32 c32 o32 := Fun.mk' Try.func32 Try.ntmps32 (by kernel_rfl) (by kernel_rfl) s32 q32
theorem F31 : Fun Try.prog 31 20 v31 c31 o31 := Fun.mk' Try.func31 Try.ntmps31 (by kernel_rfl) (by kernel_rfl) s31 q31
/-- A segment that stays, and why there is none. -/
def SegR (p : Sg × Int) (G : Nat → Option Obj) (r : Value) : Prop := ∃ A c, r = .tuple #[.agg #[.int .i64 p.1.base, .slice A p.1.bytes.length c], .int .i64 p.2] ∧ SB G (.slice A p.1.bytes.length c) p.1.bytes
theorem ownSE_sl {P : Program} {f : FuncId} {args : Array Value} {G : Nat → Option Obj} {p : Sg × Int} (hf : FnO P f args G [] (fun _ L' r => OwnSE p L' r)) :
    FnO P f args G [] (fun _ L' r => ∃ A c zc, r = .tuple #[.agg #[.int .i64 p.1.base, .slice A p.1.bytes.length c], .int .i64 p.2] ∧ (p.1.bytes.length ≤ c ∧ c ≤ maxLen) ∧ L' = [.row (.slice A p.1.bytes.length c) 5 1 p.1.bytes.length zc] ∧ Cells UE 1 p.1.bytes zc) := fun L D =>
  (hf L D).gx fun v h' ⟨G', L', he, hg, u, zc, h1, h2, h3⟩ => by
    subst he h2
    refine (gx_knowS (.head _)).mono fun h' ⟨e1, A, c, e2, e3, e4⟩ => ?_
    subst e2
    exact ⟨G', _, e1, hg, A, c, zc, h1, ⟨e3, e4⟩, rfl, h3⟩
theorem ownSE_d {P : Program} {f : FuncId} {args : Array Value} {G : Nat → Option Obj} {p : Sg × Int} (hf : FnO P f args G [] (fun _ L' r => OwnSE p L' r)) : FnD P f args G (SegR p) :=
  FnO.fnD (L1 := []) (ownSE_sl hf) fun G' L' v ⟨A, c, zc, h1, _, h2, h3⟩ _ L D => by
    subst h2
    exact (gx_slv (by decide) h3).mono fun h' ⟨G2, e1, e2, e3⟩ => ⟨G2, e1, e2, A, c, h1, e3⟩
theorem ownSg_sl {P : Program} {f : FuncId} {args : Array Value} {G : Nat → Option Obj} {s : Sg} (hf : FnO P f args G [] (fun _ L' r => OwnSg s L' r)) :
    FnO P f args G [] (fun _ L' r => ∃ A c zc, r = .agg #[.int .i64 s.base, .slice A s.bytes.length c] ∧ (s.bytes.length ≤ c ∧ c ≤ maxLen) ∧ L' = [.row (.slice A s.bytes.length c) 5 1 s.bytes.length zc] ∧ Cells UE 1 s.bytes zc) := fun L D =>
  (hf L D).gx fun v h' ⟨G', L', he, hg, u, zc, h1, h2, h3⟩ => by
    subst he h2
    refine (gx_knowS (.head _)).mono fun h' ⟨e1, A, c, e2, e3, e4⟩ => ?_
    subst e2
    exact ⟨G', _, e1, hg, A, c, zc, h1, ⟨e3, e4⟩, rfl, h3⟩
def ofL (limit : Int) : Sg → List Batch → Sg × Int
  | s, [] => (s, 0)
  | s, b :: bs => if (appS s b limit).2 = 0 then ofL limit (appS s b limit).1 bs else (noneS, (appS s b limit).2)
def ofS (base : Int) (l : List Batch) (limit : Int) : Sg × Int := if (newS base).2 = 0 ∧ limO limit = true then ofL limit (newS base).1 l else (noneS, 1)
theorem appS_ok {s : Sg} {x : Batch} {limit : Int} (h : (appS s x limit).2 = 0) : (goodB s = s.bytes.length ∧ inO s.base = true ∧ limO limit = true) ∧ errB x = 0 ∧ endB s ≤ x.base ∧ ((s.bytes.length + (bytesB x).length : Nat) : Int) ≤ limit ∧ appS s x limit = (⟨s.base, s.bytes ++ bytesB x⟩, 0) := by
  unfold appS at h ⊢
  split at h <;> rename_i h1
  · split at h <;> rename_i h2
    · split at h <;> rename_i h3
      · cases h
      · split at h <;> rename_i h4
        · cases h
        · exact ⟨h1, h2, by omega, by omega, by rw [if_pos h1, if_pos h2, if_neg h3, if_neg h4]⟩
    · exact absurd h h2
  · cases h
theorem appS_none {s : Sg} {x : Batch} {limit : Int} (h : ¬ (appS s x limit).2 = 0) : (appS s x limit).1 = noneS := by
  unfold appS at h ⊢
  split at h <;> rename_i h1
  · split at h <;> rename_i h2
    · split at h <;> rename_i h3
      · rw [if_pos h1, if_pos h2, if_pos h3]
      · split at h <;> rename_i h4
        · rw [if_pos h1, if_pos h2, if_neg h3, if_pos h4]
        · exact absurd rfl h
    · rw [if_pos h1, if_neg h2]
  · rw [if_neg h1]
theorem limO_iff {n : Int} : limO n = true ↔ 1 ≤ n ∧ n ≤ 4096 := by simp [limO]
theorem noneS_seg {p : Int} {G : Nat → Option Obj} : SegR (noneS, p) G (.tuple #[.agg #[.int .i64 0, .slice none 0 0], .int .i64 p]) := ⟨none, 0, rfl, SB.nil⟩
theorem Of_ok (base limit : Int) (l : List Batch) (v : Value) (G : Nat → Option Obj) (hl : SlV G (BE G) 10 v l) (hbi : I64 base) (hli : I64 limit) : FnD Try.prog 32 #[.int .i64 base, v, .int .i64 limit] G (SegR (ofS base l limit)) := by
  obtain ⟨A, c, rfl, hc, hm, hA⟩ := hl
  refine F32.fnD (by simp) (go_of ?_)
  unfold c32
  (intros; try refine go_st ?_); refine go_r 0 0 (by decide) ?_; (refine sJ c32r0.eq_1 ?_; try with_reducible exact True.intro)
  (intros; try refine go_st ?_); refine go_r 12 17 (by decide) ?_; (refine sJ c32r1.eq_1 ?_; try with_reducible exact True.intro)
  refine (ownSE_d (New_ok base G) _ _).mono ?_
  rintro r h' ⟨G1, rfl, hg1, A1, c1, rfl, hs1⟩
  (refine sI ?_; try with_reducible exact True.intro)
  have hbad : ∀ (fr : List Td) (e : Env) (X : List Kx.Item), ¬ ((newS base).2 = 0 ∧ limO limit = true) → go none Try.prog 44 v32.1 v32.2 (retQ o32 fun v h => SegR (ofS base l limit) h.G v) (Td.s ((SC.reg false c32r3).seq .ret) :: fr) e ⟨G1, [.reg 8 [.int .i64 (newS base).1.base, .slice A1 (newS base).1.bytes.length c1], .reg 6 [.int .i64 0, .slice none 0 0]], []⟩ := fun fr e X hn => by
    (intros; try refine go_st ?_); refine go_r 24 25 (by decide) ?_; (refine sJ c32r3.eq_1 ?_; try with_reducible exact True.intro)
    (intros; try refine go_st ?_)
    refine go_ret (retQ_v rfl ?_); simp only [push_cast, Nat.reduceBEq]
    rw [ofS, if_neg hn]
    exact noneS_seg
  (intros; try refine go_st ?_); refine go_r 17 23 (by decide) ?_; (refine sJ c32r2.eq_1 ?_; try with_reducible exact True.intro)
  refine gd (fun k1 => ?_) (fun k1 => ?_)
  · (refine sI ?_; try with_reducible exact True.intro)
    (intros; try refine go_st ?_); refine go_c ?_; (refine sI ?_; try with_reducible exact True.intro)
    exact hbad _ _ [] fun h => of_decide_eq_true k1 h.1
  have k1 : (newS base).2 = 0 := by simpa using k1
  (refine sI ?_; try with_reducible exact True.intro)
  refine (limited_ok _ _ _ _).mono ?_; rintro _ _ ⟨rfl, rfl⟩; (refine sI ?_; try with_reducible exact True.intro)
  (intros; try refine go_st ?_); refine go_c ?_; (refine sI ?_; try with_reducible exact True.intro)
  refine gb (fun k2 => ?_) (fun k2 => ?_)
  · exact hbad _ _ [] fun h => by rw [h.2] at k2; cases k2
  have k2 : limO limit = true := by simpa using k2
  clear hbad
  have hlim := limO_iff.1 k2
  have hnew : newS base = (⟨base, []⟩, 0) := by
    unfold newS at k1 ⊢
    split at k1
    · rename_i h; rw [if_pos h]
    · cases k1
  have hof : ofS base l limit = ofL limit ⟨base, []⟩ l := by rw [ofS, if_pos ⟨k1, k2⟩, hnew]
  rw [hnew] at hs1 ⊢
  rw [hof]
  clear hof hnew k1
  dsimp only at hs1 ⊢
  (repeat first | (with_reducible intro _) | refine go_skip ?_ | refine go_b ?_)
  (intros; try refine go_st ?_); refine go_r 0 0 (by decide) ?_; (refine sJ c32r4.eq_1 ?_; try with_reducible exact True.intro)
  (repeat (with_reducible intro _))
  refine go_cut (fun e h => ∃ (s : Sg) (G' : Nat → Option Obj) (A' : Option Addr) (c' : Nat), (Gle G1 G' ∧ SB G' (.slice A' s.bytes.length c') s.bytes ∧ ofL limit ⟨base, []⟩ l = (s, 0)) ∧ h = ⟨G', [.reg 8 [.int .i64 s.base, .slice A' s.bytes.length c'], .reg 6 [.int .i64 0, .slice none 0 0]], []⟩) ?_ ?_
  · (intros; try refine go_st ?_)
    refine go_loop (fun e h => ∃ (k : Nat) (s : Sg) (G' : Nat → Option Obj) (A' : Option Addr) (c' : Nat), (k ≤ l.length ∧ Gle G1 G' ∧ SB G' (.slice A' s.bytes.length c') s.bytes ∧ s.base = base ∧ s.bytes.length ≤ 4096 ∧ ofL limit ⟨base, []⟩ l = ofL limit s (l.drop k)) ∧ e 27 = .int .i64 k ∧ e 26 = .int .i64 l.length ∧ e 25 = .slice A l.length c ∧ e 2 = .int .i64 limit ∧ h = ⟨G', [.reg 8 [.int .i64 s.base, .slice A' s.bytes.length c'], .reg 6 [.int .i64 0, .slice none 0 0]], []⟩) (fun e h => l.length - iv (e 27)) ?_ ?_
    · exact ⟨0, ⟨base, []⟩, G1, A1, c1, ⟨Nat.zero_le _, .refl _, hs1, rfl, by simp, rfl⟩, eE, eE, eE, eE, rfl⟩
    rintro e h ⟨k, s, G2, A2, c2, ⟨hk, hg2, hs2, hsb, hsl, hof⟩, e27, e26, e25, e2, rfl⟩
    refine go_keep [2, 25, 26, 27] ?_
    (refine sJ4 @e2 @e25 @e26 @e27 ?_; try with_reducible exact True.intro)
    (intros; try refine go_st ?_); refine go_r 0 0 (by decide) ?_; (refine sJ c32r5.eq_1 ?_; try with_reducible exact True.intro)
    (intros; try refine go_st ?_); refine go_c ?_; (refine sI ?_; try with_reducible exact True.intro)
    refine gb (fun ht => ?_) (fun ht => ?_)
    · have ht : k < l.length := by have := of_decide_eq_true ht; omega
      have hw := inc_i k c (by omega) hm
      have hg02 := hg1.trans hg2
      obtain ⟨x, hx⟩ : ∃ x, l[k]? = some x := ⟨l[k], List.getElem?_eq_getElem (by omega)⟩
      have hA2 := hA.le hg02 (E' := BE G) fun _ _ h => h
      have hof2 : ofL limit s (l.drop k) = if (appS s x limit).2 = 0 then ofL limit (appS s x limit).1 (l.drop (k + 1)) else (noneS, (appS s x limit).2) := by
        obtain ⟨h1, h2⟩ := List.getElem?_eq_some_iff.1 hx
        rw [List.drop_eq_getElem_cons h1, h2, ofL]
      rw [hof2] at hof
      (repeat first | (with_reducible intro _) | refine go_skip ?_ | refine go_b ?_)
      (intros; try refine go_st ?_); refine go_r 29 31 (by decide) ?_; (refine sJ c32r6.eq_1 ?_; try with_reducible exact True.intro)
      refine hA2.x_ld hx rfl rfl ?_
      rintro a1 ha1 cs hbe
      have hbe := BE.le hg02 hbe
      have happ := Append_ok s x limit _ cs G2 ⟨A2, c2, rfl, hs2, by rw [hsb]; exact hbi⟩ (by omega) hbe hli
      obtain ⟨B, d, rfl, -⟩ := hbe
      unfold cellH cellS at happ
      unfold cellH
      (refine sI ?_; try with_reducible exact True.intro)
      (intros; try refine go_st ?_); refine go_r 31 38 (by decide) ?_; (refine sJ c32r7.eq_1 ?_; try with_reducible exact True.intro)
      refine (ownSE_d happ _ _).mono ?_
      rintro r h' ⟨G3, rfl, hg3, A3, c3, rfl, hs3⟩
      have hok := @appS_ok s x limit
      have hno := @appS_none s x limit
      generalize appS s x limit = q at hok hno hs3 hof
      obtain ⟨s3, er⟩ := q
      dsimp only at hok hno hs3 hof
      (refine sI ?_; try with_reducible exact True.intro)
      (intros; try refine go_st ?_); refine go_r 38 39 (by decide) ?_; (refine sJ c32r8.eq_1 ?_; try with_reducible exact True.intro)
      (intros; try refine go_st ?_); refine go_c ?_; (refine sI ?_; try with_reducible exact True.intro)
      refine gb (fun k3 => ?_) (fun k3 => ?_)
      · have k3 := of_decide_eq_true k3
        (intros; try refine go_st ?_); refine go_r 40 42 (by decide) ?_; (refine sJ c32r9.eq_1 ?_; try with_reducible exact True.intro)
        (intros; try refine go_st ?_)
        refine go_ret (retQ_v rfl ?_); simp only [push_cast, Nat.reduceBEq]
        rw [hof, if_neg k3]
        exact noneS_seg
      · have k3 : er = 0 := by simpa using k3
        subst k3
        obtain ⟨-, -, -, h4, h5⟩ := hok rfl
        have h5 : s3 = ⟨s.base, s.bytes ++ bytesB x⟩ := congrArg Prod.fst h5
        rw [if_pos rfl] at hof
        have hl3 : s3.bytes.length ≤ 4096 := by rw [h5]; simp only [List.length_append]; omega
        have hb3 : s3.base = base := by rw [h5]; exact hsb
        (repeat first | (with_reducible intro _) | refine go_skip ?_ | refine go_b ?_)
        refine go_ghost (ghost_sub (L' := [.reg 8 [.int .i64 s3.base, .slice A3 s3.bytes.length c3], .reg 6 [.int .i64 0, .slice none 0 0]]) (.cons _ (List.Sublist.refl _))) ?_
        (intros; try refine go_st ?_); refine go_r 42 43 (by decide) ?_; (refine sJ2 c32r10.eq_1 @hw ?_; try with_reducible exact True.intro)
        (intros; try refine go_st ?_)
        refine go_l ⟨⟨k + 1, s3, G3, A3, c3, ⟨by omega, hg2.trans hg3, hs3, hb3, hl3, hof⟩, eE, eE, eE, eE, rfl⟩, ?_⟩
        (refine sI ?_; try with_reducible exact True.intro)
        omega
    · have ht : k = l.length := by have := of_decide_eq_false ht; omega
      subst ht
      rw [List.drop_length, ofL] at hof
      refine go_exit ?_
      (refine sI ?_; try with_reducible exact True.intro)
      (repeat first | (with_reducible intro _) | refine go_skip ?_ | refine go_b ?_)
      exact go_l ⟨s, G2, A2, c2, ⟨hg2, hs2, hof⟩, rfl⟩
  rintro e h ⟨s, G2, A2, c2, ⟨hg2, hs2, hof⟩, rfl⟩
  (repeat (with_reducible intro _))
  (intros; try refine go_st ?_); refine go_r 43 44 (by decide) ?_; (refine sJ c32r11.eq_1 ?_; try with_reducible exact True.intro)
  (intros; try refine go_st ?_)
  refine go_ret (retQ_v rfl ?_); simp only [push_cast, Nat.reduceBEq]
  rw [hof]
  exact ⟨A2, c2, rfl, hs2⟩
def cutP (off : Int) (b : Batch) : Bool := decide (b.last < off)
def cutS (s : Sg) (off : Int) : Sg := ⟨s.base, s.bytes.take (allB ((scanB s).takeWhile (cutP off))).length⟩
theorem tw_at {α : Type} {p : α → Bool} : ∀ {l : List α} {k : Nat} {x : α}, (∀ y ∈ l.take k, p y = true) → l[k]? = some x → p x = false → l.takeWhile p = l.take k
  | [], _, _, _, h, _ => by simp at h
  | y :: l, 0, x, _, h, hp => by
    simp at h
    subst h
    rw [List.takeWhile_cons, if_neg (by rw [hp]; simp)]
    rfl
  | y :: l, k + 1, x, ha, h, hp => by
    rw [List.takeWhile_cons, if_pos (ha y (by simp)), List.take_succ_cons, tw_at (k := k) (fun z hz => ha z (by rw [List.take_succ_cons]; exact .tail _ hz)) (by simpa using h) hp]
theorem tw_all {α : Type} {p : α → Bool} : ∀ {l : List α}, (∀ y ∈ l, p y = true) → l.takeWhile p = l
  | [], _ => rfl
  | y :: l, h => by rw [List.takeWhile_cons, if_pos (h y (.head _)), tw_all fun z hz => h z (.tail _ hz)]
theorem Cut_ok (s : Sg) (off : Int) (cs : List Value) (G : Nat → Option Obj) (hs : SE G s cs) (hb : s.bytes.length ≤ 1000000) (ho : I64 off) : FnO Try.prog 31 #[.agg cs.toArray, .int .i64 off] G [] (fun _ L' r => OwnSg (cutS s off) L' r) := by
  have hs0 := hs
  obtain ⟨A, c, rfl, hl, hi⟩ := hs
  refine F31.fnO (by simp) noRegs_nil (go_of ?_)
  unfold c31
  unfold cellS at hs0 ⊢
  (intros; try refine go_st ?_); refine go_r 0 0 (by decide) ?_; (refine sJ c31r0.eq_1 ?_; try with_reducible exact True.intro)
  intro b2 hb2 b3 hb3 b4 hb4
  (intros; try refine go_st ?_)
  refine go_gx (gx_blk_at [_, _] _) ?_
  rintro h' ⟨G1, rfl, hg1, f2⟩
  refine go_gx (gx_blk_at [_] _) ?_
  rintro h' ⟨G2, rfl, hg2, f3⟩
  have f2 := fun j u hu => cellG_le hg2 (f2 j u hu)
  have e3 := f3 0 _ rfl
  rw [add_off] at e3
  have hg02 := hg1.trans hg2
  (intros; try refine go_st ?_); refine go_r 0 0 (by decide) ?_; (refine sJ c31r1.eq_1 ?_; try with_reducible exact True.intro)
  intro b5 hb5
  refine stX_blk [] [_] rfl (by simp) ⟨rfl, rfl⟩ ?_
  (refine sI ?_; try with_reducible exact True.intro)
  (intros; try refine go_st ?_); refine go_r 8 9 (by decide) ?_; (refine sJ c31r2.eq_1 ?_; try with_reducible exact True.intro)
  refine ⟨_, ⟨_, [.int .i64 s.base, .slice A s.bytes.length c], rfl, rfl, rfl, fun j u hu => .g (f2 j u hu)⟩, ?_⟩
  (refine sI ?_; try with_reducible exact True.intro)
  refine (each_ok s _ G2 (SE.le hg02 hs0) hb _ _).mono ?_
  rintro r h' ⟨G3, rfl, hg3, b, rfl, hit⟩
  obtain ⟨rr, hsc⟩ := scan_spec s
  have hcut : cutS s off = ⟨s.base, s.bytes.take (allB ((scanB s).takeWhile (cutP off))).length⟩ := rfl
  generalize scanB s = bs at hit hsc hcut
  have hlen := hsc.len
  have hrest : ∀ (fr : List Td) (e : Env) (G' : Nat → Option Obj) (D : List Nat) (k : Nat), Gle G3 G' → bs.takeWhile (cutP off) = bs.take k → e 2 = .pointer (some ⟨b2, 0, none⟩) → e 5 = .pointer (some ⟨b5, 0, none⟩) → e 4 = .pointer (some ⟨b4, 0, none⟩) →
      go none Try.prog 20 v31.1 v31.2 (retQ o31 fun v h => OwnSg (cutS s off) h.L v) (Td.s ((SC.reg false c31r7).seq .ret) :: fr) e ⟨G', [.blk b5 [.int .i64 (((allB (bs.take k)).length : Nat) : Int)], .blk b4 [.int .i64 0, .slice none 0 0]], D⟩ := fun fr e G' D k hg htw e2 e5 e4 => by
    have hle := allB_take_le bs k
    refine go_keep [2, 4, 5] ?_
    (refine sJ3 @e2 @e4 @e5 ?_; try with_reducible exact True.intro)
    (intros; try refine go_st ?_); refine go_r 17 20 (by decide) ?_; (refine sJ c31r7.eq_1 ?_; try with_reducible exact True.intro)
    refine ⟨_, ⟨_, [.int .i64 s.base, .slice A s.bytes.length c], rfl, rfl, rfl, fun j u hu => .g (cellG_le (hg3.trans hg) (f2 j u hu))⟩, ?_⟩
    (refine sI ?_; try with_reducible exact True.intro)
    refine ⟨_, ldN_blk (.head _) rfl, ?_⟩
    (refine sI ?_; try with_reducible exact True.intro)
    refine (ownSg_sl (ahead_ok s (allB (bs.take k)).length _ G' (SE.le (hg02.trans (hg3.trans hg)) hs0) hb (by omega)) _ _).mono ?_
    rintro r h' ⟨G4, L', rfl, hg4, A4, c4, zc4, rfl, -, rfl, hzc4⟩
    (refine sI ?_; try with_reducible exact True.intro)
    refine stX_blk [_, _] [] rfl (by simp) ⟨rfl, rfl⟩ ?_
    (refine sI ?_; try with_reducible exact True.intro)
    (intros; try refine go_st ?_)
    refine go_gx (gx_ne (.cons _ (List.Sublist.refl _))) ?_
    rintro h' ⟨rfl, hne⟩
    refine go_ret (retQ_o (out := [.agg #[.int .i64 s.base, .slice A4 (s.bytes.take (allB (bs.take k)).length).length c4]]) _ ?_ (.cons_cons _ (List.nil_sublist _)) (noRegs_row noRegs_nil) ?_)
    · simp [o31, resV, Kx.getB, blkO, ldC, Env.set, hne]
      trace_state
    rw [hcut, htw]
    exact ⟨_, zc4, rfl, rfl, hzc4⟩
  (refine sI ?_; try with_reducible exact True.intro)
  (intros; try refine go_st ?_)
  refine go_rf (α := Nat) (fun k G' L' => L' = [.blk b5 [.int .i64 (((allB (bs.take k)).length : Nat) : Int)], .blk b4 [.int .i64 0, .slice none 0 0]] ∧ ∀ y ∈ bs.take k, cutP off y = true)
    (fun ex k G' L' => ex = .exit 0 ∧ L' = [.blk b5 [.int .i64 (((allB (bs.take k)).length : Nat) : Int)], .blk b4 [.int .i64 0, .slice none 0 0]] ∧ bs.takeWhile (cutP off) = bs.take k) (eE) F52.enters (noRegs_blk (noRegs_blk noRegs_nil))
    (fun i G G' L hg h => h) hit (fun G x args h => by obtain ⟨y, _, _, _, rfl⟩ := h; rfl) ⟨rfl, by simp⟩ ?_ ?_ ?_
  · rintro yl k i args G' L' hki hgl ⟨x, cs, hx, hbe, rfl⟩ ⟨rfl, hall⟩ _
    obtain ⟨rfl, hkl⟩ := range_at hki
    obtain ⟨B, d, rfl, -⟩ := hbe
    have e3' := cellG_le (hg3.trans hgl) e3
    unfold cellH
    (refine sI ?_; try with_reducible exact True.intro)
    (intros; try refine go_st ?_); refine go_r 0 0 (by decide) ?_; (refine sJ c31r3.eq_1 ?_; try with_reducible exact True.intro)
    (intros; try refine go_st ?_); refine go_r 0 0 (by decide) ?_; (refine sJ c31r4.eq_1 ?_; try with_reducible exact True.intro)
    intro bb
    refine go_nil (rnd_a ?_)
    (intros; try refine go_st ?_); refine go_r 13 15 (by decide) ?_; (refine sJ c31r5.eq_1 ?_; try with_reducible exact True.intro)
    refine ⟨_, ⟨_, rfl, .g e3'⟩, ?_⟩
    (refine sI ?_; try with_reducible exact True.intro)
    (intros; try refine go_st ?_); refine go_c ?_; (refine sI ?_; try with_reducible exact True.intro)
    refine gb (fun h1 => ?_) (fun h1 => ?_)
    · have h1 := of_decide_eq_true h1
      refine go_exit ?_
      (refine sI ?_; try with_reducible exact True.intro)
      exact rnd_e _ (.cons _ (List.Sublist.refl _)) (noRegs_blk (noRegs_blk noRegs_nil)) ⟨rfl, rfl, tw_at hall hx (decide_eq_false (by omega))⟩
    · have h1 := of_decide_eq_false h1
      have hcp : cutP off x = true := decide_eq_true (by omega)
      (repeat first | (with_reducible intro _) | refine go_skip ?_ | refine go_b ?_)
      (intros; try refine go_st ?_); refine go_r 16 17 (by decide) ?_; (refine sJ c31r6.eq_1 ?_; try with_reducible exact True.intro)
      refine stX_blk [_] [_] rfl (by simp) ⟨rfl, rfl⟩ ?_
      (refine sI ?_; try with_reducible exact True.intro)
      (intros; try refine go_st ?_)
      refine go_nil (rnd_n _ (.cons _ (List.Sublist.refl _)) (noRegs_blk (noRegs_blk noRegs_nil)) ⟨rfl, fun y hy => ?_⟩)
      rw [List.take_add_one, hx] at hy
      rcases List.mem_append.1 hy with h | h
      · exact hall y h
      · simp at h; subst h; exact hcp
  · rintro G' L' dd hgl ⟨rfl, hall⟩ _
    rw [List.length_range] at hall ⊢
    refine go_b ?_
    refine hrest _ _ _ _ _ hgl ?_ ?_ ?_ ?_
    · rw [List.take_length] at hall ⊢
      exact tw_all hall
    · (refine sI ?_; try with_reducible exact True.intro)
    · (refine sI ?_; try with_reducible exact True.intro)
    · (refine sI ?_; try with_reducible exact True.intro)
  · rintro ex k G' L' d _ hgl ⟨rfl, rfl, htw⟩ _
    (refine sI ?_; try with_reducible exact True.intro)
    refine hrest _ _ _ _ _ hgl htw ?_ ?_ ?_
    · (refine sI ?_; try with_reducible exact True.intro)
    · (refine sI ?_; try with_reducible exact True.intro)
    · (refine sI ?_; try with_reducible exact True.intro)
end Go.Proofs.Ytfhheomeebejnaa

/- Bytes, part 56 of a proof: the example; whether segments, or batches, are the same. No condition. -/
set_option linter.unusedSimpArgs false
set_option linter.unusedVariables false
namespace Go.Proofs.Ytfhheomeebejnaa
open Go Go.Kx
theorem F12 : Fun Try.prog 12 50 v12 c12 o12 := Fun.mk' Try.func12 Try.ntmps12 (by kernel_rfl) (by kernel_rfl) s12 q12
theorem F13 : Fun Try.prog 13 7 v13 c13 o13 := Fun.mk' Try.func13 Try.ntmps13 (by kernel_rfl) (by kernel_rfl) s13 q13
theorem F18 : Fun Try.prog 18 17 v18 c18 o18 := Fun.mk' Try.func18 Try.ntmps18 (by kernel_rfl) (by kernel_rfl) s18 q18
theorem SFew_ok (s : Sg) (cs : List Value) (G : Nat → Option Obj) (hs : SE G s cs) : FnS Try.prog 13 #[.agg cs.toArray] G (.bool (decide (s.bytes.length ≤ 9000))) := by
  obtain ⟨A, c, rfl, hl, hi⟩ := hs
  have hd : decide ((s.bytes.length : Int) ≤ 9000) = decide (s.bytes.length ≤ 9000) := decide_eq_decide.2 (by omega)
  refine F13.fnS (by simp) (go_of ?_)
  unfold c13 cellS
  (intros; try refine go_st ?_); refine go_r 0 0 (by decide) ?_; (refine sJ c13r0.eq_1 ?_; try with_reducible exact True.intro)
  (intros; try refine go_st ?_); refine go_r 4 7 (by decide) ?_; (refine sJ2 c13r1.eq_1 @hd ?_; try with_reducible exact True.intro)
  (intros; try refine go_st ?_)
  refine go_ret (retQ_v rfl ?_); simp only [push_cast, Nat.reduceBEq]
theorem SSame_ok (s t : Sg) (cs ds : List Value) (G : Nat → Option Obj) (hs : SE G s cs) (ht : SE G t ds) : FnS Try.prog 18 #[.agg cs.toArray, .agg ds.toArray] G (.bool (decide (s = t))) := by
  obtain ⟨A, c, rfl, hl, hi⟩ := hs
  obtain ⟨B, d, rfl, hm, hj⟩ := ht
  have hd : decide (s = t) = (decide (s.base = t.base) && decide (s.bytes = t.bytes)) := by
    rw [← Bool.decide_and]
    apply decide_eq_decide.2
    constructor
    · rintro rfl; exact ⟨rfl, rfl⟩
    · rintro ⟨h1, h2⟩; cases s; cases t; simp_all
  rw [hd]
  refine F18.fnS (by simp) (go_of ?_)
  unfold c18 cellS
  (intros; try refine go_st ?_); refine go_r 0 0 (by decide) ?_; (refine sJ c18r0.eq_1 ?_; try with_reducible exact True.intro)
  (intros; try refine go_st ?_); refine go_r 6 17 (by decide) ?_; (refine sJ c18r1.eq_1 ?_; try with_reducible exact True.intro)
  refine gd (fun k1 => ?_) (fun k1 => ?_)
  · (refine sI ?_; try with_reducible exact True.intro)
    refine (BSame_ok _ _ _ _ _ hl hm _ _).mono ?_; rintro _ _ ⟨rfl, rfl⟩; (refine sI ?_; try with_reducible exact True.intro)
    (intros; try refine go_st ?_)
    refine go_ret (retQ_v rfl ?_); simp only [push_cast, Nat.reduceBEq]
    rw [k1, Bool.true_and]
  · (refine sI ?_; try with_reducible exact True.intro)
    (intros; try refine go_st ?_)
    refine go_ret (retQ_v rfl ?_); simp only [push_cast, Nat.reduceBEq]
    rw [k1, Bool.false_and]
/-- The chapter's example. -/
def lbS : Batch := ⟨6, 6, 0, 0, -1, 0, 0, false, 0, []⟩
theorem lbS_err : errB lbS = 0 := by decide +kernel
theorem lbS_len : (bytesB lbS).length = 17 := by decide +kernel
theorem scan_lb : scanB ⟨5, bytesB lbS⟩ = [lbS] := by
  refine Scans.is (r := []) ⟨by simp [allB], fun x hx => ?_, ⟨by decide, trivial⟩, fun h => ?_⟩
  · simp at hx; subst hx; exact lbS_err
  · obtain ⟨x, s, -, e, -⟩ := more_ok h
    have := bytesB_pos x
    have h2 := congrArg List.length e
    simp at h2
    omega
theorem app_lb : appS ⟨5, []⟩ lbS 100 = (⟨5, bytesB lbS⟩, 0) :=
  appS_0 ⟨rfl, by decide, by decide⟩ lbS_err (by decide) (by simp [lbS_len])
theorem live_ok (G : Nat → Option Obj) : FnS Try.prog 12 #[] G (.bool true) := by
  refine F12.fnS (by simp) (go_of ?_)
  unfold c12
  (intros; try refine go_st ?_); refine go_r 0 0 (by decide) ?_; (refine sJ c12r0.eq_1 ?_; try with_reducible exact True.intro)
  (intros; try refine go_st ?_); refine go_r 7 11 (by decide) ?_; (refine sJ c12r1.eq_1 ?_; try with_reducible exact True.intro)
  refine (ownSE_d (New_ok 5 G) _ _).mono ?_
  rintro r h' ⟨G1, rfl, hg1, A1, c1, rfl, hs1⟩
  have hn : newS 5 = (⟨5, []⟩, 0) := rfl
  rw [hn] at hs1 ⊢
  dsimp only at hs1 ⊢
  have hbe : ∀ G', BE G' lbS [.int .i64 6, .int .i64 6, .int .i64 0, .int .i64 0, .int .i64 (-1), .int .i64 0, .int .i64 0, .bool false, .int .i64 0, .slice none 0 0] := fun G' => ⟨none, 0, rfl, ⟨Nat.le_refl _, Nat.zero_le _, fun i x hx => by simp [lbS] at hx⟩, by decide, by decide, by decide, by decide, by decide, by decide, by decide, by decide⟩
  have hse1 : SE G1 ⟨5, []⟩ [.int .i64 5, .slice A1 0 c1] := ⟨A1, c1, rfl, hs1, by decide⟩
  (refine sI ?_; try with_reducible exact True.intro)
  (intros; try refine go_st ?_); refine go_r 11 17 (by decide) ?_; (refine sJ c12r2.eq_1 ?_; try with_reducible exact True.intro)
  refine (ownSE_d (Append_ok ⟨5, []⟩ lbS 100 _ _ G1 hse1 (by simp) (hbe G1) (by decide)) _ _).mono ?_
  rintro r h' ⟨G2, rfl, hg2, A2, c2, rfl, hs2⟩
  rw [app_lb] at hs2 ⊢
  dsimp only at hs2 ⊢
  have hse2 : SE G2 ⟨5, bytesB lbS⟩ [.int .i64 5, .slice A2 (bytesB lbS).length c2] := ⟨A2, c2, rfl, hs2, by decide⟩
  (refine sI ?_; try with_reducible exact True.intro)
  (intros; try refine go_st ?_); refine go_r 17 22 (by decide) ?_; (refine sJ c12r3.eq_1 ?_; try with_reducible exact True.intro)
  refine (Scan_ok ⟨5, bytesB lbS⟩ _ G2 hse2 (by simp [lbS_len]) _ _).mono ?_
  rintro r h' ⟨G3, L', rfl, hg3, u, zc, rfl, hzc, rfl⟩
  rw [scan_lb] at hzc ⊢
  (refine sI ?_; try with_reducible exact True.intro)
  (repeat (with_reducible intro _)); try refine go_seq ?_
  refine go_gx (gx_slv_at [] _ (by decide) hzc) ?_
  rintro h' ⟨G4, rfl, hg4, A4, c4, rfl, hc4, hm4, hA4⟩
  have hg24 := hg3.trans hg4
  (intros; try refine go_st ?_); refine go_r 22 50 (by decide) ?_; (refine sJ c12r4.eq_1 ?_; try with_reducible exact True.intro)
  have hE1 : endB ⟨5, []⟩ = 5 := rfl
  have hE2 : endB ⟨5, bytesB lbS⟩ = 7 := by rw [endB, scan_lb]; rfl
  refine (End_ok ⟨5, []⟩ _ G4 (SE.le (hg2.trans hg24) hse1) (by simp) _ _).mono ?_; rintro _ _ ⟨rfl, rfl⟩; (refine sJ @hE1 ?_; try with_reducible exact True.intro)
  have h7 := End_ok ⟨5, bytesB lbS⟩ _ G4 (SE.le hg24 hse2) (by simp [lbS_len])
  rw [hE2] at h7
  refine (h7 _ _).mono ?_; rintro _ _ ⟨rfl, rfl⟩; (refine sI ?_; try with_reducible exact True.intro)
  have hone : decide ((0 : Int) + 1 = 1) = true := by decide
  (refine sJ @hone ?_; try with_reducible exact True.intro)
  refine hA4.x_lf (k := 0) (u := .int .i64 6) rfl rfl rfl (fun cs h => by obtain ⟨_, _, rfl, -⟩ := h; rfl) fun a ha => ?_
  (refine sI ?_; try with_reducible exact True.intro)
  (intros; try refine go_st ?_)
  refine go_ret (retQ_v rfl ?_); simp only [push_cast, Nat.reduceBEq]
end Go.Proofs.Ytfhheomeebejnaa

/- Bytes, part 58 of a proof: segments put on, cut off and spoilt; plain. No condition. -/
set_option linter.unusedSimpArgs false
set_option linter.unusedVariables false
namespace Go.Proofs.Ytfhheomeebejnaa
open Go Go.Kx
theorem more_nil {nx : Int} : ¬ moreB [] nx := fun h => by
  obtain ⟨x, s, -, e, -⟩ := more_ok h
  have := bytesB_pos x
  have h2 := congrArg List.length e
  simp at h2
  omega
theorem ordB_take {nx : Int} {bs : List Batch} (h : ordB nx bs) (k : Nat) : ordB nx (bs.take k) := by
  rw [← List.take_append_drop k bs, ordB_app] at h
  exact h.1
theorem Scans.pre {nx : Int} {q r : List UInt8} {bs : List Batch} (h : Scans nx q bs r) (k : Nat) : Scans nx (allB (bs.take k)) (bs.take k) [] :=
  ⟨(List.append_nil _).symm, fun x hx => h.ok x (List.mem_of_mem_take hx), ordB_take h.ord k, more_nil⟩
end Go.Proofs.Ytfhheomeebejnaa

/- Bytes, part 65 of a proof: the document's answer of a segment, walked. No condition. -/
set_option linter.unusedSimpArgs false
set_option linter.unusedVariables false
namespace Go.Proofs.Ytfhheomeebejnaa
open Go Go.Kx
theorem F27 : Fun Try.prog 27 50 v27 c27 o27 := Fun.mk' Try.func27 Try.ntmps27 (by kernel_rfl) (by kernel_rfl) s27 q27
theorem F30 : Fun Try.prog 30 23 v30 c30 o30 := Fun.mk' Try.func30 Try.ntmps30 (by kernel_rfl) (by kernel_rfl) s30 q30
theorem F40 : Fun Try.prog 40 25 v40 c40 o40 := Fun.mk' Try.func40 Try.ntmps40 (by kernel_rfl) (by kernel_rfl) s40 q40
theorem nextB_take {bs : List Batch} {t : Nat} {y : Batch} (b : Int) (h0 : 0 < t) (hy : bs[t - 1]? = some y) : nextB b (bs.take t) = y.last + 1 := by
  have := nextB_at b hy
  rwa [show t - 1 + 1 = t by omega] at this
theorem ordB_ge : ∀ {nx : Int} {bs : List Batch}, ordB nx bs → (∀ x ∈ bs, errB x = 0) → nx ≤ nextB nx bs
  | nx, [], _, _ => Int.le_refl _
  | nx, x :: bs, ho, hok => by
    have h1 := ordB_ge ho.2 (fun z hz => hok z (.tail _ hz))
    have h2 : x.base ≤ x.last := (errB_ok (hok x (.head _))).1.2.2.1.1
    have h3 := ho.1
    simp only [nextB]
    omega
theorem nextB_last0 {W : List Batch} {x : Batch} (b : Int) (hx : W[W.length - 1]? = some x) : nextB b W = x.last + 1 := by
  have h1 := (List.getElem?_eq_some_iff.1 hx).1
  have := nextB_at b hx
  rwa [show W.length - 1 + 1 = W.length by omega, List.take_length] at this
set_option maxHeartbeats 1000000 in
theorem RScan_ok (s : Sg) (cs : List Value) (G : Nat → Option Obj) (hs : SE G s cs) (hb : s.bytes.length ≤ 1000000) : FnO Try.prog 27 #[.agg cs.toArray] G [] (fun G' L' r => ScanR s G' L' r) := by
  have hs0 := hs
  obtain ⟨A, c, rfl, hl, hi⟩ := hs
  refine F27.fnO (by simp) noRegs_nil (go_of ?_)
  obtain ⟨rr, hsc⟩ := scan_spec s
  have hSR : ∀ G' u zc, Cells (BE G') 10 (scanB s) zc → ScanR s G' [.row u 27 10 (scanB s).length zc] (.tuple #[u, .int .i64 (((allB (scanB s)).length : Nat) : Int)]) := fun G' u zc h => ⟨u, zc, rfl, h, rfl⟩
  generalize scanB s = bs at hsc hSR
  have hlen := hsc.len
  unfold c27
  unfold cellS at hs0 ⊢
  (intros; try refine go_st ?_); refine go_r 0 0 (by decide) ?_; (refine sJ c27r0.eq_1 ?_; try with_reducible exact True.intro)
  (intros; try refine go_st ?_); refine go_r 0 0 (by decide) ?_; (refine sJ c27r1.eq_1 ?_; try with_reducible exact True.intro)
  (intros; try refine go_st ?_); refine go_r 0 0 (by decide) ?_; (refine sJ c27r2.eq_1 ?_; try with_reducible exact True.intro)
  (repeat (with_reducible intro _))
  (intros; try refine go_st ?_)
  refine go_ghost (ghost_nil none 27 10) ?_
  refine go_loop (fun e h => ∃ (t : Nat) (G' : Nat → Option Obj) (u : Value) (zc : List Value) (Lh : List Kx.Item), (t ≤ bs.length ∧ Gle G G' ∧ Cells (BE G') 10 (bs.take t) zc) ∧ e 4 = u ∧ e 5 = .int .i64 (((allB (bs.take t)).length : Nat) : Int) ∧ h = ⟨G', Lh, []⟩ ∧ [.row u 27 10 (bs.take t).length zc, .reg 1 [.int .i64 s.base, .slice A s.bytes.length c]].Sublist Lh) (fun e h => s.bytes.length + 1 - iv (e 5)) ?_ ?_
  · exact ⟨0, G, _, [], _, ⟨Nat.zero_le _, .refl G, .nil⟩, eE, rfl, rfl, List.Sublist.refl _⟩
  rintro e h ⟨t, G', u, zc, Lh, ⟨ht, hgg, hzc⟩, e4, e5, rfl, hsub⟩
  refine go_keep [4, 5] ?_
  (refine sJ2 @e4 @e5 ?_; try with_reducible exact True.intro)
  (repeat (with_reducible intro _))
  refine go_ghost (ghost_sub hsub) ?_
  have hget := RBGet_ok s.bytes (((allB (bs.take t)).length : Nat) : Int) _ G' (SB.le hl hgg) hb
  unfold GetBR at hget
  have htk := allB_take_le bs t
  have htl2 : (bs.take t).length = t := by rw [List.length_take]; omega
  (intros; try refine go_st ?_); refine go_r 9 17 (by decide) ?_; (refine sJ c27r3.eq_1 ?_; try with_reducible exact True.intro)
  refine (hget _ _).mono ?_
  rintro v h' ⟨G1, rfl, hg1, cs, rfl, hbe⟩
  have hg01 := hgg.trans hg1
  have hzc := cells_imp hzc fun _ _ h => BE.le hg1 h
  by_cases htl : t < bs.length
  · obtain ⟨x, hx⟩ : ∃ x, bs[t]? = some x := ⟨bs[t], List.getElem?_eq_getElem htl⟩
    obtain ⟨a1, a2, a3, a4⟩ := hsc.at_ hx
    rw [a1] at hbe ⊢
    dsimp only at hbe ⊢
    have hbe0 := hbe
    obtain ⟨B, d, rfl, -⟩ := hbe
    have hlt : (allB (bs.take t)).length < (allB (bs.take (t + 1))).length := by
      have := bytesB_pos x
      rw [allB_take hx, List.length_append]
      omega
    have hle := allB_take_le bs (t + 1)
    have htk1 : bs.take (t + 1) = bs.take t ++ [x] := by rw [List.take_add_one, hx]; rfl
    have hge : s.base ≤ nextB s.base (bs.take t) := ordB_ge (ordB_take hsc.ord t) fun z hz => hsc.ok z (List.mem_of_mem_take hz)
    have n1 : decide ((0 : Int) ≠ 0) = false := by decide
    have n2 : decide (x.base < s.base) = false := decide_eq_false (by omega)
    unfold cellH at hbe0 ⊢
    (refine sI ?_; try with_reducible exact True.intro)
    (repeat (with_reducible intro _)); try refine go_seq ?_
    refine go_gx (gx_knowS (.tail _ (.head _))) ?_
    rintro h' ⟨rfl, Au, cu, rfl, hcu, hmu⟩
    refine go_cut (fun e h => e 4 = .slice Au (bs.take t).length cu ∧ e 7 = .int .i64 (((allB (bs.take (t + 1))).length : Nat) : Int) ∧ h = ⟨G1, [.reg 6 [.int .i64 x.base, .int .i64 x.last, .int .i64 x.src, .int .i64 x.epoch, .int .i64 x.pid, .int .i64 x.gen, .int .i64 x.seq, .bool x.txn, .int .i64 x.ctl, .slice B x.recs.length d], .row (.slice Au (bs.take t).length cu) 27 10 (bs.take t).length zc, .reg 1 [.int .i64 s.base, .slice A s.bytes.length c]], []⟩) ?_ ?_
    · by_cases h0 : 0 < t
      · refine go_gx (gx_know (.tail _ (.head _)) (by omega)) ?_
        rintro h' ⟨rfl, g, c0, hA3, -, -⟩
        cases hA3
        obtain ⟨y, hy⟩ : ∃ y, bs[t - 1]? = some y := ⟨bs[t - 1]'(by omega), List.getElem?_eq_getElem _⟩
        have hyt : (bs.take t)[t - 1]? = some y := by rw [List.getElem?_take, if_pos (by omega)]; exact hy
        have hnx := nextB_take s.base h0 hy
        have hw1 := len_i t h0 (by omega)
        have n3 : decide (0 < (((bs.take t).length : Nat) : Int)) = true := decide_eq_true (by omega)
        have n4 : decide (x.base ≤ y.last) = false := decide_eq_false (by omega)
        obtain ⟨cy, hEy, hly, hcy⟩ := hzc.get hyt
        have hv1 := hcy 1 (.int .i64 y.last) (by obtain ⟨_, _, rfl, -⟩ := hEy; rfl)
        have hw1 : IntKind.i64.wrap ((((bs.take t).length : Nat) : Int) - 1) = ((t - 1 : Nat) : Int) := by rw [htl2]; exact hw1
        (intros; try refine go_st ?_); refine go_q 17 42 (by decide) ?_; (refine sJ5 c27r4.eq_1 @n1 @n2 @n3 @hw1 ?_; try with_reducible exact True.intro)
        refine ⟨by omega, _, rfl, ?_⟩
        rw [add_off, add_off, Nat.zero_add]
        refine ⟨_, ldN_row (.tail _ (.head _)) hv1, ?_⟩
        (refine sJ @n4 ?_; try with_reducible exact True.intro)
        (intros; try refine go_st ?_); refine go_c ?_; (refine sI ?_; try with_reducible exact True.intro)
        (intros; try refine go_st ?_)
        exact go_l ⟨eE, eE, rfl⟩
      · have n3 : decide (0 < (((bs.take t).length : Nat) : Int)) = false := decide_eq_false (by omega)
        (intros; try refine go_st ?_); refine go_q 17 42 (by decide) ?_; (refine sJ4 c27r4.eq_1 @n1 @n2 @n3 ?_; try with_reducible exact True.intro)
        (intros; try refine go_st ?_); refine go_c ?_; (refine sI ?_; try with_reducible exact True.intro)
        (intros; try refine go_st ?_)
        exact go_l ⟨eE, eE, rfl⟩
    rintro e h ⟨e4, e7, rfl⟩
    refine go_keep [4, 7] ?_
    (refine sJ2 @e4 @e7 ?_; try with_reducible exact True.intro)
    (repeat (with_reducible intro _))
    (intros; try refine go_st ?_); refine go_r 45 49 (by decide) ?_; (refine sJ c27r6.eq_1 ?_; try with_reducible exact True.intro)
    intro bk hbk
    refine app1 (L1 := [_]) (L2 := [_]) (E := BE G1) (x := x) rfl hbe0 rfl (by simp [Value.oneCell']) hzc (by omega) (by omega) fun A' c' zc' hzc' => ?_
    rw [← htk1] at hzc' ⊢
    (refine sI ?_; try with_reducible exact True.intro)
    (intros; try refine go_st ?_); refine go_r 49 50 (by decide) ?_; (refine sJ c27r7.eq_1 ?_; try with_reducible exact True.intro)
    (intros; try refine go_st ?_)
    refine go_l ⟨⟨t + 1, G1, _, zc', _, ⟨by omega, hg01, hzc'⟩, eE, eE, rfl, .cons _ (.cons _ (List.Sublist.refl _))⟩, ?_⟩
    (refine sI ?_; try with_reducible exact True.intro)
    omega
  · have htl : t = bs.length := by omega
    subst htl
    rw [List.take_length] at hget hbe hzc ⊢
    have hend := hsc.end_
    generalize getB s.bytes (((allB bs).length : Nat) : Int) = q at *
    obtain ⟨x, nx, er⟩ := q
    dsimp only at hbe hend ⊢
    obtain ⟨B, d, rfl, -⟩ := hbe
    unfold cellH
    have hfin := hSR G1 u zc hzc
    have hret : ∀ (e : Env) (fr : List Td), e 4 = u → e 5 = .int .i64 (((allB bs).length : Nat) : Int) → go none Try.prog 50 v27.1 v27.2 (retQ o27 fun v h => ScanR s h.G h.L v) (Td.s ((SC.reg false c27r5).seq .ret) :: fr) e ⟨G1, [.reg 6 [.int .i64 x.base, .int .i64 x.last, .int .i64 x.src, .int .i64 x.epoch, .int .i64 x.pid, .int .i64 x.gen, .int .i64 x.seq, .bool x.txn, .int .i64 x.ctl, .slice B x.recs.length d], .row u 27 10 bs.length zc, .reg 1 [.int .i64 s.base, .slice A s.bytes.length c]], []⟩ := fun e fr e4 e5 => by
      refine go_keep [4, 5] ?_
      (refine sJ2 @e4 @e5 ?_; try with_reducible exact True.intro)
      (intros; try refine go_st ?_); refine go_r 43 45 (by decide) ?_; (refine sJ c27r5.eq_1 ?_; try with_reducible exact True.intro)
      (intros; try refine go_st ?_)
      exact go_ret (retQ_o _ rfl (.cons _ (.cons_cons _ (List.nil_sublist _))) (noRegs_row noRegs_nil) hfin)
    (refine sI ?_; try with_reducible exact True.intro)
    (repeat (with_reducible intro _)); try refine go_seq ?_
    refine go_gx (gx_knowS (.tail _ (.head _))) ?_
    rintro h' ⟨rfl, Au, cu, rfl, hcu, hmu⟩
    by_cases h0 : 0 < bs.length
    · refine go_gx (gx_know (.tail _ (.head _)) (by omega)) ?_
      rintro h' ⟨rfl, g, c0, hA3, -, -⟩
      cases hA3
      obtain ⟨y, hy⟩ : ∃ y, bs[bs.length - 1]? = some y := ⟨bs[bs.length - 1]'(by omega), List.getElem?_eq_getElem _⟩
      have hnx := nextB_last0 s.base hy
      have hw1 := len_i bs.length h0 (by omega)
      have n3 : decide (0 < ((bs.length : Nat) : Int)) = true := decide_eq_true (by omega)
      obtain ⟨cy, hEy, hly, hcy⟩ := hzc.get hy
      have hv1 := hcy 1 (.int .i64 y.last) (by obtain ⟨_, _, rfl, -⟩ := hEy; rfl)
      (intros; try refine go_st ?_); refine go_q 17 42 (by decide) ?_; (refine sJ c27r4.eq_1 ?_; try with_reducible exact True.intro)
      refine gq (fun k1 => ?_) (fun k1 => ?_)
      · (refine sI ?_; try with_reducible exact True.intro)
        (intros; try refine go_st ?_); refine go_c ?_; (refine sI ?_; try with_reducible exact True.intro)
        exact hret _ _ (eE) (eE)
      have k1 : er = 0 := by simpa using k1
      (refine sI ?_; try with_reducible exact True.intro)
      refine gq (fun k2 => ?_) (fun k2 => ?_)
      · (refine sI ?_; try with_reducible exact True.intro)
        (intros; try refine go_st ?_); refine go_c ?_; (refine sI ?_; try with_reducible exact True.intro)
        exact hret _ _ (eE) (eE)
      have k2 := of_decide_eq_false k2
      have n4 : decide (x.base ≤ y.last) = true := decide_eq_true (by rcases hend with h | h; exact absurd k1 h; omega)
      (refine sJ2 @n3 @hw1 ?_; try with_reducible exact True.intro)
      refine ⟨by omega, _, rfl, ?_⟩
      rw [add_off, add_off, Nat.zero_add]
      refine ⟨_, ldN_row (.tail _ (.head _)) hv1, ?_⟩
      (refine sJ @n4 ?_; try with_reducible exact True.intro)
      (intros; try refine go_st ?_); refine go_c ?_; (refine sI ?_; try with_reducible exact True.intro)
      exact hret _ _ (eE) (eE)
    · have hb0 : bs = [] := List.eq_nil_of_length_eq_zero (by omega)
      have hnx : nextB s.base bs = s.base := by rw [hb0]; rfl
      (intros; try refine go_st ?_); refine go_q 17 42 (by decide) ?_; (refine sJ c27r4.eq_1 ?_; try with_reducible exact True.intro)
      refine gq (fun k1 => ?_) (fun k1 => ?_)
      · (refine sI ?_; try with_reducible exact True.intro)
        (intros; try refine go_st ?_); refine go_c ?_; (refine sI ?_; try with_reducible exact True.intro)
        exact hret _ _ (eE) (eE)
      have k1 : er = 0 := by simpa using k1
      have k2 : decide (x.base < s.base) = true := decide_eq_true (by rcases hend with h | h; exact absurd k1 h; omega)
      (refine sJ @k2 ?_; try with_reducible exact True.intro)
      (intros; try refine go_st ?_); refine go_c ?_; (refine sI ?_; try with_reducible exact True.intro)
      exact hret _ _ (eE) (eE)
theorem REnd_ok (s : Sg) (cs : List Value) (G : Nat → Option Obj) (hs : SE G s cs) (hb : s.bytes.length ≤ 1000000) : FnS Try.prog 30 #[.agg cs.toArray] G (.int .i64 (endB s)) := by
  have hscan := RScan_ok s cs G hs hb
  have hs0 := hs
  obtain ⟨A, c, rfl, hl, hi⟩ := hs
  obtain ⟨rr, hsc⟩ := scan_spec s
  have hend : endB s = nextB s.base (scanB s) := rfl
  refine F30.fnS (by simp) (go_of ?_)
  unfold c30
  unfold cellS at hscan ⊢
  (intros; try refine go_st ?_); refine go_r 0 0 (by decide) ?_; (refine sJ c30r0.eq_1 ?_; try with_reducible exact True.intro)
  (intros; try refine go_st ?_); refine go_r 4 10 (by decide) ?_; (refine sJ c30r1.eq_1 ?_; try with_reducible exact True.intro)
  refine (hscan _ _).mono ?_
  rintro r h' ⟨G1, L', rfl, hg1, u, zc, rfl, hzc, rfl⟩
  generalize scanB s = bs at *
  (refine sI ?_; try with_reducible exact True.intro)
  (repeat (with_reducible intro _)); try refine go_seq ?_
  refine go_gx (gx_slv_at [] _ (by decide) hzc) ?_
  rintro h' ⟨G2, rfl, hg2, A2, c2, rfl, hc2, hm2, hA2⟩
  (intros; try refine go_st ?_); refine go_r 10 12 (by decide) ?_; (refine sJ c30r2.eq_1 ?_; try with_reducible exact True.intro)
  (intros; try refine go_st ?_); refine go_c ?_; (refine sI ?_; try with_reducible exact True.intro)
  refine gb (fun k1 => ?_) (fun k1 => ?_)
  · have k1 := of_decide_eq_true k1
    have hb0 : bs = [] := List.eq_nil_of_length_eq_zero (by omega)
    (intros; try refine go_st ?_); refine go_r 14 15 (by decide) ?_; (refine sJ c30r3.eq_1 ?_; try with_reducible exact True.intro)
    (intros; try refine go_st ?_)
    refine go_ret (retQ_v rfl ?_); simp only [push_cast, Nat.reduceBEq]
    rw [hend, hb0]
    rfl
  · have k1 := of_decide_eq_false k1
    obtain ⟨y, hy⟩ : ∃ y, bs[bs.length - 1]? = some y := ⟨bs[bs.length - 1]'(by omega), List.getElem?_eq_getElem _⟩
    have hnx := nextB_last0 s.base hy
    have hw1 := len_i bs.length (by omega) (by omega)
    have hlw := last_i (hsc.ok y (List.mem_of_getElem? hy))
    (repeat first | (with_reducible intro _) | refine go_skip ?_ | refine go_b ?_)
    (intros; try refine go_st ?_); refine go_r 15 23 (by decide) ?_; (refine sJ2 c30r4.eq_1 @hw1 ?_; try with_reducible exact True.intro)
    refine hA2.x_lf (k := bs.length - 1) (u := .int .i64 y.last) hy (by omega) rfl (fun cs h => by obtain ⟨_, _, rfl, -⟩ := h; rfl) fun a ha => ?_
    (refine sJ @hlw ?_; try with_reducible exact True.intro)
    (intros; try refine go_st ?_)
    refine go_ret (retQ_v rfl ?_); simp only [push_cast, Nat.reduceBEq]
    rw [hend, hnx]
def wholeB (s : Sg) : Bool := inO s.base && decide (goodB s = s.bytes.length)
theorem RWhole_ok (s : Sg) (cs : List Value) (G : Nat → Option Obj) (hs : SE G s cs) (hb : s.bytes.length ≤ 1000000) : FnS Try.prog 40 #[.agg cs.toArray] G (.bool (wholeB s)) := by
  have hscan := RScan_ok s cs G hs hb
  obtain ⟨A, c, rfl, hl, hi⟩ := hs
  refine F40.fnS (by simp) (go_of ?_)
  unfold c40
  unfold cellS at hscan ⊢
  have hd : decide (((goodB s : Nat) : Int) = ((s.bytes.length : Nat) : Int)) = decide (goodB s = s.bytes.length) := decide_eq_decide.2 (by omega)
  (intros; try refine go_st ?_); refine go_r 0 0 (by decide) ?_; (refine sJ c40r0.eq_1 ?_; try with_reducible exact True.intro)
  (intros; try refine go_st ?_); refine go_r 5 10 (by decide) ?_; (refine sJ c40r1.eq_1 ?_; try with_reducible exact True.intro)
  refine (hscan _ _).mono ?_
  rintro r h' ⟨G1, L', rfl, hg1, u, zc, rfl, hzc, rfl⟩
  (refine sI ?_; try with_reducible exact True.intro)
  (intros; try refine go_st ?_); refine go_r 11 25 (by decide) ?_; (refine sJ2 c40r2.eq_1 @hd ?_; try with_reducible exact True.intro)
  refine gd (fun k1 => ?_) (fun k1 => ?_)
  · (refine sI ?_; try with_reducible exact True.intro)
    refine gd (fun k2 => ?_) (fun k2 => ?_)
    · (refine sJ @hd ?_; try with_reducible exact True.intro)
      (intros; try refine go_st ?_)
      refine go_ret (retQ_v rfl ?_); simp only [push_cast, Nat.reduceBEq]
      rw [wholeB, inO, k1, k2, Bool.true_and, Bool.true_and]
    · (refine sI ?_; try with_reducible exact True.intro)
      (intros; try refine go_st ?_)
      refine go_ret (retQ_v rfl ?_); simp only [push_cast, Nat.reduceBEq]
      rw [wholeB, inO, k2, Bool.and_false, Bool.false_and]
  · (refine sI ?_; try with_reducible exact True.intro)
    (intros; try refine go_st ?_)
    refine go_ret (retQ_v rfl ?_); simp only [push_cast, Nat.reduceBEq]
    rw [wholeB, inO, k1, Bool.false_and, Bool.false_and]
end Go.Proofs.Ytfhheomeebejnaa

/- Bytes, part 66 of a proof: the document's answer of a segment made, walked. No condition. -/
set_option linter.unusedSimpArgs false
set_option linter.unusedVariables false
namespace Go.Proofs.Ytfhheomeebejnaa
open Go Go.Kx
theorem F34 : Fun Try.prog 34 13 v34 c34 o34 := Fun.mk' Try.func34 Try.ntmps34 (by kernel_rfl) (by kernel_rfl) s34 q34
theorem F17 : Fun Try.prog 17 54 v17 c17 o17 := Fun.mk' Try.func17 Try.ntmps17 (by kernel_rfl) (by kernel_rfl) s17 q17
theorem F33 : Fun Try.prog 33 47 v33 c33 o33 := Fun.mk' Try.func33 Try.ntmps33 (by kernel_rfl) (by kernel_rfl) s33 q33
theorem F35 : Fun Try.prog 35 38 v35 c35 o35 := Fun.mk' Try.func35 Try.ntmps35 (by kernel_rfl) (by kernel_rfl) s35 q35
theorem RNew_ok (base : Int) (G : Nat → Option Obj) : FnO Try.prog 34 #[.int .i64 base] G [] (fun _ L' r => OwnSE (newS base) L' r) := by
  refine F34.fnO (by simp) noRegs_nil (go_of ?_)
  unfold c34
  have hbad : ∀ (fr : List Td) (e : Env), ¬ inO base = true → go none Try.prog 13 v34.1 v34.2 (retQ o34 fun v h => OwnSE (newS base) h.L v) (Td.s ((SC.reg false c34r2).seq .ret) :: fr) e ⟨G, [.reg 2 [.int .i64 0, .slice none 0 0]], []⟩ := fun fr e hn => by
    (intros; try refine go_st ?_); refine go_r 10 11 (by decide) ?_; (refine sJ c34r2.eq_1 ?_; try with_reducible exact True.intro)
    (intros; try refine go_st ?_)
    refine go_ghost (ghost_nil none 5 1) ?_
    refine go_ret (retQ_o _ rfl (.cons_cons _ (List.nil_sublist _)) (noRegs_row noRegs_nil) ?_)
    rw [newS, if_neg hn]
    exact ⟨_, [], rfl, rfl, .nil⟩
  (intros; try refine go_st ?_); refine go_r 0 0 (by decide) ?_; (refine sJ c34r0.eq_1 ?_; try with_reducible exact True.intro)
  (intros; try refine go_st ?_); refine go_r 4 9 (by decide) ?_; (refine sJ c34r1.eq_1 ?_; try with_reducible exact True.intro)
  refine gd (fun h1 => ?_) (fun h1 => ?_)
  · have h1 := of_decide_eq_true h1
    (refine sI ?_; try with_reducible exact True.intro)
    (intros; try refine go_st ?_); refine go_c ?_; (refine sI ?_; try with_reducible exact True.intro)
    exact hbad _ _ fun h => by have := inO_iff.1 h; omega
  have h1 := of_decide_eq_false h1
  (refine sI ?_; try with_reducible exact True.intro)
  (intros; try refine go_st ?_); refine go_c ?_; (refine sI ?_; try with_reducible exact True.intro)
  refine gb (fun h2 => ?_) (fun h2 => ?_)
  · have h2 := of_decide_eq_true h2
    exact hbad _ _ fun h => by have := inO_iff.1 h; omega
  have h2 := of_decide_eq_false h2
  have h : inO base = true := inO_iff.2 (by omega)
  (repeat first | (with_reducible intro _) | refine go_skip ?_ | refine go_b ?_)
  (intros; try refine go_st ?_); refine go_r 11 13 (by decide) ?_; (refine sJ c34r3.eq_1 ?_; try with_reducible exact True.intro)
  (intros; try refine go_st ?_)
  refine go_ghost (ghost_nil none 5 1) ?_
  refine go_ret (retQ_o _ rfl (.cons_cons _ (List.nil_sublist _)) (noRegs_row noRegs_nil) ?_)
  rw [newS, if_pos h]
  exact ⟨_, [], rfl, rfl, .nil⟩
theorem wholeB_iff {s : Sg} : wholeB s = true ↔ goodB s = s.bytes.length ∧ inO s.base = true := by
  simp [wholeB, and_comm]
theorem RAppend_ok (s : Sg) (x : Batch) (limit : Int) (cs ds : List Value) (G : Nat → Option Obj) (hs : SE G s cs) (hb : s.bytes.length ≤ 100000) (hx : BE G x ds) (hi : I64 limit) :
    FnO Try.prog 17 #[.agg cs.toArray, .agg ds.toArray, .int .i64 limit] G [] (fun _ L' r => OwnSE (appS s x limit) L' r) := by
  have hs0 := hs
  have hx0 := hx
  have hwh := RWhole_ok s cs G hs (by omega)
  obtain ⟨A, c, rfl, hl, hib⟩ := hs
  obtain ⟨B, d, rfl, -⟩ := hx
  refine F17.fnO (by simp) noRegs_nil (go_of ?_)
  unfold c17
  unfold cellS at hs0 hwh ⊢
  unfold cellH at hx0 ⊢
  (intros; try refine go_st ?_); refine go_r 0 0 (by decide) ?_; (refine sJ c17r0.eq_1 ?_; try with_reducible exact True.intro)
  have hbad : ∀ (fr : List Td) (e : Env) (X : List Kx.Item) (Y : List Value), ¬ (goodB s = s.bytes.length ∧ inO s.base = true ∧ limO limit = true) → go none Try.prog 54 v17.1 v17.2 (retQ o17 fun v h => OwnSE (appS s x limit) h.L v) (Td.s ((SC.reg false c17r2).seq .ret) :: fr) e ⟨G, .reg 6 [.int .i64 0, .slice none 0 0] :: X, []⟩ := fun fr e X Y hn => by
    (intros; try refine go_st ?_); refine go_r 21 22 (by decide) ?_; (refine sJ c17r2.eq_1 ?_; try with_reducible exact True.intro)
    (intros; try refine go_st ?_)
    refine go_ghost (ghost_nil none 5 1) ?_
    refine go_ret (retQ_o _ rfl (.cons_cons _ (List.nil_sublist _)) (noRegs_row noRegs_nil) ?_)
    rw [appS_1 hn]
    exact ⟨_, [], rfl, rfl, .nil⟩
  (intros; try refine go_st ?_); refine go_r 10 20 (by decide) ?_; (refine sJ c17r1.eq_1 ?_; try with_reducible exact True.intro)
  refine (hwh _ _).mono ?_; rintro _ _ ⟨rfl, rfl⟩; (refine sI ?_; try with_reducible exact True.intro)
  refine gd (fun k1 => ?_) (fun k1 => ?_)
  · (refine sI ?_; try with_reducible exact True.intro)
    (intros; try refine go_st ?_); refine go_c ?_; (refine sI ?_; try with_reducible exact True.intro)
    exact hbad _ _ _ [] fun h => by rw [wholeB_iff.2 ⟨h.1, h.2.1⟩] at k1; cases k1
  have k1 := wholeB_iff.1 (by simpa using k1)
  (refine sI ?_; try with_reducible exact True.intro)
  refine gd (fun k2 => ?_) (fun k2 => ?_)
  · have k2 := of_decide_eq_true k2
    (refine sI ?_; try with_reducible exact True.intro)
    (intros; try refine go_st ?_); refine go_c ?_; (refine sI ?_; try with_reducible exact True.intro)
    exact hbad _ _ _ [] fun h => by have := limO_iff.1 h.2.2; omega
  have k2 := of_decide_eq_false k2
  (refine sI ?_; try with_reducible exact True.intro)
  (intros; try refine go_st ?_); refine go_c ?_; (refine sI ?_; try with_reducible exact True.intro)
  refine gb (fun k3 => ?_) (fun k3 => ?_)
  · have k3 := of_decide_eq_true k3
    exact hbad _ _ _ [] fun h => by have := limO_iff.1 h.2.2; omega
  have k3 := of_decide_eq_false k3
  clear hbad
  have hok : goodB s = s.bytes.length ∧ inO s.base = true ∧ limO limit = true := ⟨k1.1, k1.2, limO_iff.2 (by omega)⟩
  (repeat first | (with_reducible intro _) | refine go_skip ?_ | refine go_b ?_)
  have hput := RBPut_ok x _ G hx0
  (intros; try refine go_st ?_); refine go_r 22 27 (by decide) ?_; (refine sJ c17r3.eq_1 ?_; try with_reducible exact True.intro)
  refine (hput _ _).mono ?_
  rintro r h' ⟨G2, L', rfl, hg2, w, rfl, ys, hys, rfl⟩
  (refine sI ?_; try with_reducible exact True.intro)
  (repeat (with_reducible intro _)); try refine go_seq ?_
  refine go_gx (gx_slv_at [] _ (by decide) hys) ?_
  rintro h' ⟨G3, rfl, hg3, hv3⟩
  have hg03 := hg2.trans hg3
  by_cases he : errB x = 0
  rotate_left
  · rw [putB_n he] at hv3 ⊢
    (intros; try refine go_st ?_); refine go_r 27 28 (by decide) ?_; (refine sJ c17r4.eq_1 ?_; try with_reducible exact True.intro)
    (intros; try refine go_st ?_); refine go_c ?_; (refine sI ?_; try with_reducible exact True.intro)
    refine gb (fun k4 => ?_) (fun k4 => absurd (of_decide_eq_false k4) (by simpa using he))
    (intros; try refine go_st ?_); refine go_r 29 31 (by decide) ?_; (refine sJ c17r5.eq_1 ?_; try with_reducible exact True.intro)
    (intros; try refine go_st ?_)
    refine go_ghost (ghost_nil none 5 1) ?_
    refine go_ret (retQ_o _ rfl (.cons_cons _ (List.nil_sublist _)) (noRegs_row noRegs_nil) ?_)
    rw [appS_e hok he]
    exact ⟨_, [], rfl, rfl, .nil⟩
  rw [putB_0 he] at hv3 ⊢
  have hv3 : SB G3 w (bytesB x) := hv3
  have hbl := (errB_ok he).2
  have hz : decide ((0 : Int) ≠ 0) = false := by decide
  (intros; try refine go_st ?_); refine go_r 27 28 (by decide) ?_; (refine sJ2 c17r4.eq_1 @hz ?_; try with_reducible exact True.intro)
  (intros; try refine go_st ?_); refine go_c ?_; (refine sI ?_; try with_reducible exact True.intro)
  (repeat first | (with_reducible intro _) | refine go_skip ?_ | refine go_b ?_)
  (intros; try refine go_st ?_); refine go_x _ (List.Sublist.refl _) (by decide) ?_; (refine sJ c17r6.eq_1 ?_; try with_reducible exact True.intro)
  refine (REnd_ok s _ G3 (SE.le hg03 hs0) (by omega) _ _).mono ?_; rintro _ _ ⟨rfl, rfl⟩; (refine sI ?_; try with_reducible exact True.intro)
  (intros; try refine go_st ?_); refine go_c ?_; (refine sI ?_; try with_reducible exact True.intro)
  refine gb (fun k5 => ?_) (fun k5 => ?_)
  · have k5 := of_decide_eq_true k5
    (intros; try refine go_st ?_); refine go_r 36 37 (by decide) ?_; (refine sJ c17r7.eq_1 ?_; try with_reducible exact True.intro)
    (intros; try refine go_st ?_)
    refine go_ghost (ghost_nil none 5 1) ?_
    refine go_ret (retQ_o _ rfl (.cons_cons _ (List.nil_sublist _)) (noRegs_row noRegs_nil) ?_)
    rw [appS_o hok he k5]
    exact ⟨_, [], rfl, rfl, .nil⟩
  have k5 := of_decide_eq_false k5
  have hw : IntKind.i64.wrap ((s.bytes.length : Int) + ((bytesB x).length : Int)) = ((s.bytes.length + (bytesB x).length : Nat) : Int) := by rw [w64_id] <;> omega
  have hsb3 := hv3
  obtain ⟨A3, c3, rfl, -⟩ := hv3
  (repeat first | (with_reducible intro _) | refine go_skip ?_ | refine go_b ?_)
  (intros; try refine go_st ?_); refine go_r 38 44 (by decide) ?_; (refine sJ2 c17r8.eq_1 @hw ?_; try with_reducible exact True.intro)
  (intros; try refine go_st ?_); refine go_c ?_; (refine sI ?_; try with_reducible exact True.intro)
  refine gb (fun k6 => ?_) (fun k6 => ?_)
  · have k6 := of_decide_eq_true k6
    (intros; try refine go_st ?_); refine go_r 45 46 (by decide) ?_; (refine sJ c17r9.eq_1 ?_; try with_reducible exact True.intro)
    (intros; try refine go_st ?_)
    refine go_ghost (ghost_nil none 5 1) ?_
    refine go_ret (retQ_o _ rfl (.cons_cons _ (List.nil_sublist _)) (noRegs_row noRegs_nil) ?_)
    rw [appS_r hok he k5 k6]
    exact ⟨_, [], rfl, rfl, .nil⟩
  have k6 := of_decide_eq_false k6
  have h0 := appS_0 hok he k5 k6
  (repeat first | (with_reducible intro _) | refine go_skip ?_ | refine go_b ?_)
  (intros; try refine go_st ?_); refine go_y _ (List.Sublist.refl _) (by decide) ?_; (refine sJ c17r10.eq_1 ?_; try with_reducible exact True.intro)
  refine (Copy_ok s.bytes _ G3 (SB.le hl hg03) (by omega) _ _).mono ?_
  rintro r h' ⟨G4, L', rfl, hg4, zs, hzs, rfl⟩
  refine ⟨grow_L hg4 (.cons _ (List.Sublist.refl _)), ?_⟩
  (refine sI ?_; try with_reducible exact True.intro)
  refine apX_v (L1 := []) (.inl rfl) (SB.le hsb3 hg4) rfl UE1 (by unfold maxLen; omega) fun ys5 A5 c5 hc5 => ?_
  have hh := hzs.app hc5
  rw [← List.length_append]
  (refine sI ?_; try with_reducible exact True.intro)
  refine ⟨grow_L hg4 (.cons _ (List.Sublist.refl _)), ?_⟩
  (refine sI ?_; try with_reducible exact True.intro)
  (refine sJ c17r11.eq_1 ?_; try with_reducible exact True.intro)
  (intros; try refine go_st ?_)
  refine go_ret (retQ_o _ rfl (.cons_cons _ (List.nil_sublist _)) (noRegs_row noRegs_nil) ?_)
  rw [h0]
  exact ⟨_, _, rfl, rfl, hh⟩
theorem ROf_ok (base limit : Int) (l : List Batch) (v : Value) (G : Nat → Option Obj) (hl : SlV G (BE G) 10 v l) (hbi : I64 base) (hli : I64 limit) : FnD Try.prog 33 #[.int .i64 base, v, .int .i64 limit] G (SegR (ofS base l limit)) := by
  obtain ⟨A, c, rfl, hc, hm, hA⟩ := hl
  refine F33.fnD (by simp) (go_of ?_)
  unfold c33
  (intros; try refine go_st ?_); refine go_r 0 0 (by decide) ?_; (refine sJ c33r0.eq_1 ?_; try with_reducible exact True.intro)
  (intros; try refine go_st ?_); refine go_r 12 17 (by decide) ?_; (refine sJ c33r1.eq_1 ?_; try with_reducible exact True.intro)
  refine (ownSE_d (RNew_ok base G) _ _).mono ?_
  rintro r h' ⟨G1, rfl, hg1, A1, c1, rfl, hs1⟩
  (refine sI ?_; try with_reducible exact True.intro)
  have hbad : ∀ (fr : List Td) (e : Env) (X : List Kx.Item), ¬ ((newS base).2 = 0 ∧ limO limit = true) → go none Try.prog 47 v33.1 v33.2 (retQ o33 fun v h => SegR (ofS base l limit) h.G v) (Td.s ((SC.reg false c33r3).seq .ret) :: fr) e ⟨G1, [.reg 8 [.int .i64 (newS base).1.base, .slice A1 (newS base).1.bytes.length c1], .reg 6 [.int .i64 0, .slice none 0 0]], []⟩ := fun fr e X hn => by
    (intros; try refine go_st ?_); refine go_r 27 28 (by decide) ?_; (refine sJ c33r3.eq_1 ?_; try with_reducible exact True.intro)
    (intros; try refine go_st ?_)
    refine go_ret (retQ_v rfl ?_); simp only [push_cast, Nat.reduceBEq]
    rw [ofS, if_neg hn]
    exact noneS_seg
  (intros; try refine go_st ?_); refine go_r 17 26 (by decide) ?_; (refine sJ c33r2.eq_1 ?_; try with_reducible exact True.intro)
  refine gd (fun k1 => ?_) (fun k1 => ?_)
  · (refine sI ?_; try with_reducible exact True.intro)
    (intros; try refine go_st ?_); refine go_c ?_; (refine sI ?_; try with_reducible exact True.intro)
    exact hbad _ _ [] fun h => of_decide_eq_true k1 h.1
  have k1 : (newS base).2 = 0 := by simpa using k1
  (refine sI ?_; try with_reducible exact True.intro)
  refine gd (fun k2 => ?_) (fun k2 => ?_)
  · have k2 := of_decide_eq_true k2
    (refine sI ?_; try with_reducible exact True.intro)
    (intros; try refine go_st ?_); refine go_c ?_; (refine sI ?_; try with_reducible exact True.intro)
    exact hbad _ _ [] fun h => by have := limO_iff.1 h.2; omega
  have k2 := of_decide_eq_false k2
  (refine sI ?_; try with_reducible exact True.intro)
  (intros; try refine go_st ?_); refine go_c ?_; (refine sI ?_; try with_reducible exact True.intro)
  refine gb (fun k3 => ?_) (fun k3 => ?_)
  · have k3 := of_decide_eq_true k3
    exact hbad _ _ [] fun h => by have := limO_iff.1 h.2; omega
  have k3 := of_decide_eq_false k3
  have k2 : limO limit = true := limO_iff.2 (by omega)
  clear hbad
  have hlim := limO_iff.1 k2
  have hnew : newS base = (⟨base, []⟩, 0) := by
    unfold newS at k1 ⊢
    split at k1
    · rename_i h; rw [if_pos h]
    · cases k1
  have hof : ofS base l limit = ofL limit ⟨base, []⟩ l := by rw [ofS, if_pos ⟨k1, k2⟩, hnew]
  rw [hnew] at hs1 ⊢
  rw [hof]
  clear hof hnew k1
  dsimp only at hs1 ⊢
  (repeat first | (with_reducible intro _) | refine go_skip ?_ | refine go_b ?_)
  (intros; try refine go_st ?_); refine go_r 0 0 (by decide) ?_; (refine sJ c33r4.eq_1 ?_; try with_reducible exact True.intro)
  (repeat (with_reducible intro _))
  refine go_cut (fun e h => ∃ (s : Sg) (G' : Nat → Option Obj) (A' : Option Addr) (c' : Nat), (Gle G1 G' ∧ SB G' (.slice A' s.bytes.length c') s.bytes ∧ ofL limit ⟨base, []⟩ l = (s, 0)) ∧ h = ⟨G', [.reg 8 [.int .i64 s.base, .slice A' s.bytes.length c'], .reg 6 [.int .i64 0, .slice none 0 0]], []⟩) ?_ ?_
  · (intros; try refine go_st ?_)
    refine go_loop (fun e h => ∃ (k : Nat) (s : Sg) (G' : Nat → Option Obj) (A' : Option Addr) (c' : Nat), (k ≤ l.length ∧ Gle G1 G' ∧ SB G' (.slice A' s.bytes.length c') s.bytes ∧ s.base = base ∧ s.bytes.length ≤ 4096 ∧ ofL limit ⟨base, []⟩ l = ofL limit s (l.drop k)) ∧ e 30 = .int .i64 k ∧ e 29 = .int .i64 l.length ∧ e 28 = .slice A l.length c ∧ e 2 = .int .i64 limit ∧ h = ⟨G', [.reg 8 [.int .i64 s.base, .slice A' s.bytes.length c'], .reg 6 [.int .i64 0, .slice none 0 0]], []⟩) (fun e h => l.length - iv (e 30)) ?_ ?_
    · exact ⟨0, ⟨base, []⟩, G1, A1, c1, ⟨Nat.zero_le _, .refl _, hs1, rfl, by simp, rfl⟩, eE, eE, eE, eE, rfl⟩
    rintro e h ⟨k, s, G2, A2, c2, ⟨hk, hg2, hs2, hsb, hsl, hof⟩, e30, e29, e28, e2, rfl⟩
    refine go_keep [2, 28, 29, 30] ?_
    (refine sJ4 @e2 @e28 @e29 @e30 ?_; try with_reducible exact True.intro)
    (intros; try refine go_st ?_); refine go_r 0 0 (by decide) ?_; (refine sJ c33r5.eq_1 ?_; try with_reducible exact True.intro)
    (intros; try refine go_st ?_); refine go_c ?_; (refine sI ?_; try with_reducible exact True.intro)
    refine gb (fun ht => ?_) (fun ht => ?_)
    · have ht : k < l.length := by have := of_decide_eq_true ht; omega
      have hw := inc_i k c (by omega) hm
      have hg02 := hg1.trans hg2
      obtain ⟨x, hx⟩ : ∃ x, l[k]? = some x := ⟨l[k], List.getElem?_eq_getElem (by omega)⟩
      have hA2 := hA.le hg02 (E' := BE G) fun _ _ h => h
      have hof2 : ofL limit s (l.drop k) = if (appS s x limit).2 = 0 then ofL limit (appS s x limit).1 (l.drop (k + 1)) else (noneS, (appS s x limit).2) := by
        obtain ⟨h1, h2⟩ := List.getElem?_eq_some_iff.1 hx
        rw [List.drop_eq_getElem_cons h1, h2, ofL]
      rw [hof2] at hof
      (repeat first | (with_reducible intro _) | refine go_skip ?_ | refine go_b ?_)
      (intros; try refine go_st ?_); refine go_r 32 34 (by decide) ?_; (refine sJ c33r6.eq_1 ?_; try with_reducible exact True.intro)
      refine hA2.x_ld hx rfl rfl ?_
      rintro a1 ha1 cs hbe
      have hbe := BE.le hg02 hbe
      have happ := RAppend_ok s x limit _ cs G2 ⟨A2, c2, rfl, hs2, by rw [hsb]; exact hbi⟩ (by omega) hbe hli
      obtain ⟨B, d, rfl, -⟩ := hbe
      unfold cellH cellS at happ
      unfold cellH
      (refine sI ?_; try with_reducible exact True.intro)
      (intros; try refine go_st ?_); refine go_r 34 41 (by decide) ?_; (refine sJ c33r7.eq_1 ?_; try with_reducible exact True.intro)
      refine (ownSE_d happ _ _).mono ?_
      rintro r h' ⟨G3, rfl, hg3, A3, c3, rfl, hs3⟩
      have hok := @appS_ok s x limit
      have hno := @appS_none s x limit
      generalize appS s x limit = q at hok hno hs3 hof
      obtain ⟨s3, er⟩ := q
      dsimp only at hok hno hs3 hof
      (refine sI ?_; try with_reducible exact True.intro)
      (intros; try refine go_st ?_); refine go_r 41 42 (by decide) ?_; (refine sJ c33r8.eq_1 ?_; try with_reducible exact True.intro)
      (intros; try refine go_st ?_); refine go_c ?_; (refine sI ?_; try with_reducible exact True.intro)
      refine gb (fun k3 => ?_) (fun k3 => ?_)
      · have k3 := of_decide_eq_true k3
        (intros; try refine go_st ?_); refine go_r 43 45 (by decide) ?_; (refine sJ c33r9.eq_1 ?_; try with_reducible exact True.intro)
        (intros; try refine go_st ?_)
        refine go_ret (retQ_v rfl ?_); simp only [push_cast, Nat.reduceBEq]
        rw [hof, if_neg k3]
        exact noneS_seg
      · have k3 : er = 0 := by simpa using k3
        subst k3
        obtain ⟨-, -, -, h4, h5⟩ := hok rfl
        have h5 : s3 = ⟨s.base, s.bytes ++ bytesB x⟩ := congrArg Prod.fst h5
        rw [if_pos rfl] at hof
        have hl3 : s3.bytes.length ≤ 4096 := by rw [h5]; simp only [List.length_append]; omega
        have hb3 : s3.base = base := by rw [h5]; exact hsb
        (repeat first | (with_reducible intro _) | refine go_skip ?_ | refine go_b ?_)
        refine go_ghost (ghost_sub (L' := [.reg 8 [.int .i64 s3.base, .slice A3 s3.bytes.length c3], .reg 6 [.int .i64 0, .slice none 0 0]]) (.cons _ (List.Sublist.refl _))) ?_
        (intros; try refine go_st ?_); refine go_r 45 46 (by decide) ?_; (refine sJ2 c33r10.eq_1 @hw ?_; try with_reducible exact True.intro)
        (intros; try refine go_st ?_)
        refine go_l ⟨⟨k + 1, s3, G3, A3, c3, ⟨by omega, hg2.trans hg3, hs3, hb3, hl3, hof⟩, eE, eE, eE, eE, rfl⟩, ?_⟩
        (refine sI ?_; try with_reducible exact True.intro)
        omega
    · have ht : k = l.length := by have := of_decide_eq_false ht; omega
      subst ht
      rw [List.drop_length, ofL] at hof
      refine go_exit ?_
      (refine sI ?_; try with_reducible exact True.intro)
      (repeat first | (with_reducible intro _) | refine go_skip ?_ | refine go_b ?_)
      exact go_l ⟨s, G2, A2, c2, ⟨hg2, hs2, hof⟩, rfl⟩
  rintro e h ⟨s, G2, A2, c2, ⟨hg2, hs2, hof⟩, rfl⟩
  (repeat (with_reducible intro _))
  (intros; try refine go_st ?_); refine go_r 46 47 (by decide) ?_; (refine sJ c33r11.eq_1 ?_; try with_reducible exact True.intro)
  (intros; try refine go_st ?_)
  refine go_ret (retQ_v rfl ?_); simp only [push_cast, Nat.reduceBEq]
  rw [hof]
  exact ⟨A2, c2, rfl, hs2⟩
theorem RCut_ok (s : Sg) (off : Int) (cs : List Value) (G : Nat → Option Obj) (hs : SE G s cs) (hb : s.bytes.length ≤ 1000000) (ho : I64 off) : FnO Try.prog 35 #[.agg cs.toArray, .int .i64 off] G [] (fun _ L' r => OwnSg (cutS s off) L' r) := by
  have hscan := RScan_ok s cs G hs hb
  have hs0 := hs
  obtain ⟨A, c, rfl, hl, hi⟩ := hs
  refine F35.fnO (by simp) noRegs_nil (go_of ?_)
  obtain ⟨rr, hsc⟩ := scan_spec s
  have hcut : cutS s off = ⟨s.base, s.bytes.take (allB ((scanB s).takeWhile (cutP off))).length⟩ := rfl
  obtain ⟨_, _, hcc, hlc, -, -⟩ := id hl
  cases hcc
  unfold c35
  unfold cellS at hscan hs0 ⊢
  (intros; try refine go_st ?_); refine go_r 0 0 (by decide) ?_; (refine sJ c35r0.eq_1 ?_; try with_reducible exact True.intro)
  (intros; try refine go_st ?_); refine go_r 10 15 (by decide) ?_; (refine sJ c35r1.eq_1 ?_; try with_reducible exact True.intro)
  refine (hscan _ _).mono ?_
  rintro r h' ⟨G1, L', rfl, hg1, u, zc, rfl, hzc, rfl⟩
  generalize scanB s = bs at *
  have hlen := hsc.len
  (refine sI ?_; try with_reducible exact True.intro)
  (repeat (with_reducible intro _)); try refine go_seq ?_
  refine go_gx (gx_slv_at [] _ (by decide) hzc) ?_
  rintro h' ⟨G2, rfl, hg2, A2, c2, rfl, hc2, hm2, hA2⟩
  have hg02 := hg1.trans hg2
  (intros; try refine go_st ?_); refine go_r 0 0 (by decide) ?_; (refine sJ c35r2.eq_1 ?_; try with_reducible exact True.intro)
  (intros; try refine go_st ?_); refine go_r 0 0 (by decide) ?_; (refine sJ c35r3.eq_1 ?_; try with_reducible exact True.intro)
  (repeat (with_reducible intro _))
  refine go_cut (fun e h => ∃ k : Nat, bs.takeWhile (cutP off) = bs.take k ∧ e 7 = .int .i64 (((allB (bs.take k)).length : Nat) : Int) ∧ h = ⟨G2, [.reg 4 [.int .i64 0, .slice none 0 0], .reg 2 [.int .i64 s.base, .slice A s.bytes.length c]], []⟩) ?_ ?_
  · (intros; try refine go_st ?_)
    refine go_loop (fun e h => ∃ k : Nat, (k ≤ bs.length ∧ ∀ y ∈ bs.take k, cutP off y = true) ∧ e 17 = .int .i64 k ∧ e 16 = .int .i64 bs.length ∧ e 15 = .slice A2 bs.length c2 ∧ e 7 = .int .i64 (((allB (bs.take k)).length : Nat) : Int) ∧ e 1 = .int .i64 off ∧ h = ⟨G2, [.reg 4 [.int .i64 0, .slice none 0 0], .reg 2 [.int .i64 s.base, .slice A s.bytes.length c]], []⟩) (fun e h => bs.length - iv (e 17)) ?_ ?_
    · exact ⟨0, ⟨Nat.zero_le _, by simp⟩, eE, eE, eE, rfl, eE, rfl⟩
    rintro e h ⟨k, ⟨hk, hall⟩, e17, e16, e15, e7, e1, rfl⟩
    refine go_keep [1, 7, 15, 16, 17] ?_
    (refine sJ5 @e1 @e7 @e15 @e16 @e17 ?_; try with_reducible exact True.intro)
    (intros; try refine go_st ?_); refine go_r 0 0 (by decide) ?_; (refine sJ c35r4.eq_1 ?_; try with_reducible exact True.intro)
    (intros; try refine go_st ?_); refine go_c ?_; (refine sI ?_; try with_reducible exact True.intro)
    refine gb (fun ht => ?_) (fun ht => ?_)
    · have ht : k < bs.length := by have := of_decide_eq_true ht; omega
      have hw := inc_i k c2 (by omega) hm2
      obtain ⟨x, hx⟩ : ∃ x, bs[k]? = some x := ⟨bs[k], List.getElem?_eq_getElem (by omega)⟩
      have hx0 := hsc.ok x (List.mem_of_getElem? hx)
      have hln : (allB (bs.take (k + 1))).length = (allB (bs.take k)).length + (bytesB x).length := by rw [allB_take hx, List.length_append]
      have hle := allB_take_le bs (k + 1)
      have hw2 : IntKind.i64.wrap ((((allB (bs.take k)).length : Nat) : Int) + (((bytesB x).length : Nat) : Int)) = (((allB (bs.take (k + 1))).length : Nat) : Int) := by rw [w64_id] <;> omega
      (repeat first | (with_reducible intro _) | refine go_skip ?_ | refine go_b ?_)
      (intros; try refine go_st ?_); refine go_r 19 21 (by decide) ?_; (refine sJ c35r5.eq_1 ?_; try with_reducible exact True.intro)
      refine hA2.x_ld hx rfl rfl ?_
      rintro a1 ha1 cs hbe
      have hsz := RSize_ok x cs G2 (BE.le hg2 hbe)
      rw [sizeB, putB_0 hx0] at hsz
      dsimp only at hsz
      obtain ⟨B, d, rfl, -⟩ := hbe
      unfold cellH at hsz ⊢
      (refine sI ?_; try with_reducible exact True.intro)
      (intros; try refine go_st ?_); refine go_r 22 24 (by decide) ?_; (refine sJ c35r6.eq_1 ?_; try with_reducible exact True.intro)
      (intros; try refine go_st ?_); refine go_c ?_; (refine sI ?_; try with_reducible exact True.intro)
      refine gb (fun h1 => ?_) (fun h1 => ?_)
      · have h1 := of_decide_eq_true h1
        refine go_ghost (ghost_sub (.cons _ (List.Sublist.refl _))) ?_
        refine go_exit ?_
        (refine sI ?_; try with_reducible exact True.intro)
        exact go_l ⟨k, tw_at hall hx (decide_eq_false (by omega)), eE, rfl⟩
      · have h1 := of_decide_eq_false h1
        have hcp : cutP off x = true := decide_eq_true (by omega)
        (repeat first | (with_reducible intro _) | refine go_skip ?_ | refine go_b ?_)
        (intros; try refine go_st ?_); refine go_r 25 29 (by decide) ?_; (refine sJ c35r7.eq_1 ?_; try with_reducible exact True.intro)
        refine (hsz _ _).mono ?_; rintro _ _ ⟨rfl, rfl⟩; (refine sJ @hw2 ?_; try with_reducible exact True.intro)
        (repeat first | (with_reducible intro _) | refine go_skip ?_ | refine go_b ?_)
        refine go_ghost (ghost_sub (.cons _ (List.Sublist.refl _))) ?_
        (intros; try refine go_st ?_); refine go_r 29 30 (by decide) ?_; (refine sJ2 c35r8.eq_1 @hw ?_; try with_reducible exact True.intro)
        (intros; try refine go_st ?_)
        refine go_l ⟨⟨k + 1, ⟨by omega, fun y hy => ?_⟩, eE, eE, eE, eE, eE, rfl⟩, ?_⟩
        · rw [List.take_add_one, hx] at hy
          rcases List.mem_append.1 hy with h | h
          · exact hall y h
          · simp at h; subst h; exact hcp
        · (refine sI ?_; try with_reducible exact True.intro)
          omega
    · have ht : k = bs.length := by have := of_decide_eq_false ht; omega
      subst ht
      refine go_exit ?_
      (refine sI ?_; try with_reducible exact True.intro)
      exact go_l ⟨bs.length, by rw [List.take_length] at hall ⊢; exact tw_all hall, eE, rfl⟩
  rintro e h ⟨k, htw, e7, rfl⟩
  have hle := allB_take_le bs k
  have hpre := SlV.pre (allB (bs.take k)).length (SB.le hl hg02) (by omega)
  refine go_keep [7] ?_
  (refine sJ @e7 ?_; try with_reducible exact True.intro)
  (repeat (with_reducible intro _))
  (intros; try refine go_st ?_); refine go_y _ (List.Sublist.refl _) (by decide) ?_; (refine sJ c35r9.eq_1 ?_; try with_reducible exact True.intro)
  refine ⟨by omega, ?_⟩
  refine (ownK_sl (Copy_ok _ _ G2 hpre (by rw [List.length_take]; omega)) _ _).mono ?_
  rintro r h' ⟨G4, L', rfl, hg4, A4, c4, zc4, rfl, -, hzc4, rfl⟩
  refine ⟨grow_L hg4 (.cons _ (List.Sublist.refl _)), ?_⟩
  (refine sI ?_; try with_reducible exact True.intro)
  (refine sJ c35r10.eq_1 ?_; try with_reducible exact True.intro)
  (intros; try refine go_st ?_)
  refine go_ret (retQ_o _ rfl (.cons_cons _ (List.nil_sublist _)) (noRegs_row noRegs_nil) ?_)
  rw [hcut, htw]
  exact ⟨_, zc4, rfl, rfl, hzc4⟩
end Go.Proofs.Ytfhheomeebejnaa

/- Bytes, part 69 of a proof: the law of a segment that is made, walked. No condition. -/
set_option linter.unusedSimpArgs false
set_option linter.unusedVariables false
namespace Go.Proofs.Ytfhheomeebejnaa
open Go Go.Kx
theorem F11 : Fun Try.prog 11 80 v11 c11 o11 := Fun.mk' Try.func11 Try.ntmps11 (by kernel_rfl) (by kernel_rfl) s11 q11
theorem ofL_i {limit : Int} : ∀ {s : Sg} {l : List Batch}, I64 s.base → I64 (ofL limit s l).1.base
  | s, [], h => h
  | s, b :: l, h => by
    rw [ofL]
    by_cases h3 : (appS s b limit).2 = 0
    · rw [if_pos h3]
      refine ofL_i ?_
      rw [(appS_ok h3).2.2.2.2]
      exact h
    · rw [if_neg h3]
      exact (by decide : I64 0)
theorem newS_i {base : Int} (hb : I64 base) : I64 (newS base).1.base := by
  unfold newS
  split
  · exact hb
  · exact (by decide : I64 0)
theorem ofS_i {base limit : Int} {l : List Batch} (hb : I64 base) : I64 (ofS base l limit).1.base := by
  unfold ofS
  split
  · exact ofL_i (newS_i hb)
  · exact (by decide : I64 0)
theorem ownSg_d {P : Program} {f : FuncId} {args : Array Value} {G : Nat → Option Obj} {s : Sg} (hi : I64 s.base) (hf : FnO P f args G [] (fun _ L' r => OwnSg s L' r)) : FnD P f args G (fun G' r => ∃ A c, r = .agg #[.int .i64 s.base, .slice A s.bytes.length c] ∧ SE G' s [.int .i64 s.base, .slice A s.bytes.length c]) :=
  FnO.fnD (L1 := []) (ownSg_sl hf) fun G' L' v ⟨A, c, zc, h1, _, h2, h3⟩ _ L D => by
    subst h2
    exact (gx_slv (by decide) h3).mono fun h' ⟨G2, e1, e2, e3⟩ => ⟨G2, e1, e2, A, c, h1, A, c, rfl, e3, hi⟩
set_option maxHeartbeats 1000000 in
theorem SegMakes_ok (base : Int) (l : List Batch) (limit : Int) (s : Sg) (off : Int) (v : Value) (cs : List Value) (G : Nat → Option Obj) (hbi : I64 base) (hl : SlV G (BE G) 10 v l) (hli : I64 limit) (hs : SE G s cs) (ho : I64 off) :
    FnS Try.prog 11 #[.int .i64 base, v, .int .i64 limit, .agg cs.toArray, .int .i64 off] G (.bool true) := by
  have hs0 := hs
  have hl0 := hl
  have hfa := FewAll_ok l 30 v G hl
  obtain ⟨A, c, rfl, hsl, hib⟩ := hs
  obtain ⟨B, d, rfl, hd, hmy, hB⟩ := hl
  refine F11.fnS (by simp) (go_of ?_)
  unfold c11
  unfold cellS at hs0 ⊢
  (intros; try refine go_st ?_); refine go_r 0 0 (by decide) ?_; (refine sJ c11r0.eq_1 ?_; try with_reducible exact True.intro)
  (intros; try refine go_st ?_); refine go_r 19 20 (by decide) ?_; (refine sJ c11r1.eq_1 ?_; try with_reducible exact True.intro)
  refine (live_ok _ _ _).mono ?_; rintro _ _ ⟨rfl, rfl⟩; (refine sI ?_; try with_reducible exact True.intro)
  (intros; try refine go_st ?_); refine go_c ?_; (refine sI ?_; try with_reducible exact True.intro)
  have hskip : ∀ (fr : List Td) (e : Env) (L : List Kx.Item), go none Try.prog 80 v11.1 v11.2 (retQ o11 fun v h => v = .bool true) (Td.s ((SC.reg false c11r4).seq .ret) :: fr) e ⟨G, L, []⟩ := fun fr e L => by
    (intros; try refine go_st ?_); refine go_r 0 0 (by decide) ?_; (refine sJ c11r4.eq_1 ?_; try with_reducible exact True.intro)
    (intros; try refine go_st ?_)
    refine go_ret (retQ_v rfl ?_); simp only [push_cast, Nat.reduceBEq]
  (repeat first | (with_reducible intro _) | refine go_skip ?_ | refine go_b ?_)
  (intros; try refine go_st ?_); refine go_r 21 28 (by decide) ?_; (refine sJ c11r3.eq_1 ?_; try with_reducible exact True.intro)
  refine (SFew_ok s _ G hs0 _ _).mono ?_; rintro _ _ ⟨rfl, rfl⟩; (refine sI ?_; try with_reducible exact True.intro)
  refine gd (fun k1 => ?_) (fun k1 => ?_)
  · (refine sI ?_; try with_reducible exact True.intro)
    (intros; try refine go_st ?_); refine go_c ?_; (refine sI ?_; try with_reducible exact True.intro)
    exact hskip _ _ _
  have k1 : s.bytes.length ≤ 9000 := by simpa using k1
  (refine sI ?_; try with_reducible exact True.intro)
  refine (hfa _ _).mono ?_
  rintro r h' ⟨⟨b1, rfl, -⟩, rfl⟩
  (refine sI ?_; try with_reducible exact True.intro)
  (intros; try refine go_st ?_); refine go_c ?_; (refine sI ?_; try with_reducible exact True.intro)
  refine gb (fun k2 => ?_) (fun k2 => ?_)
  · exact hskip _ _ _
  clear hskip
  (repeat first | (with_reducible intro _) | refine go_skip ?_ | refine go_b ?_)
  have hX := @ofS_i base limit l hbi
  have h1 := Of_ok base limit l _ G hl0 hbi hli
  have h2 := fun G' (hg : Gle G G') => ROf_ok base limit l _ G' (hl0.le hg fun _ _ h => BE.le hg h) hbi hli
  generalize ofS base l limit = q at hX h1 h2
  obtain ⟨X, er⟩ := q
  dsimp only at hX
  have hY := @newS_i base hbi
  have h3 := fun G' => New_ok base G'
  have h4 := fun G' => RNew_ok base G'
  generalize newS base = q at hY h3 h4
  obtain ⟨Y, ey⟩ := q
  dsimp only at hY
  (intros; try refine go_st ?_); refine go_r 29 36 (by decide) ?_; (refine sJ c11r5.eq_1 ?_; try with_reducible exact True.intro)
  refine (h1 _ _).mono ?_
  rintro r h' ⟨G1, rfl, hg1, A1, c1, rfl, hv1⟩
  dsimp only at hv1 ⊢
  (refine sI ?_; try with_reducible exact True.intro)
  (intros; try refine go_st ?_); refine go_r 36 43 (by decide) ?_; (refine sJ c11r6.eq_1 ?_; try with_reducible exact True.intro)
  refine (h2 G1 hg1 _ _).mono ?_
  rintro r h' ⟨G2, rfl, hg2, A2, c2, rfl, hv2⟩
  dsimp only at hv2 ⊢
  (refine sI ?_; try with_reducible exact True.intro)
  (intros; try refine go_st ?_); refine go_r 43 48 (by decide) ?_; (refine sJ c11r7.eq_1 ?_; try with_reducible exact True.intro)
  refine (ownSE_d (h3 G2) _ _).mono ?_
  rintro r h' ⟨G3, rfl, hg3, A3, c3, rfl, hv3⟩
  dsimp only at hv3 ⊢
  (refine sI ?_; try with_reducible exact True.intro)
  (intros; try refine go_st ?_); refine go_r 48 53 (by decide) ?_; (refine sJ c11r8.eq_1 ?_; try with_reducible exact True.intro)
  refine (ownSE_d (h4 G3) _ _).mono ?_
  rintro r h' ⟨G4, rfl, hg4, A4, c4, rfl, hv4⟩
  dsimp only at hv4 ⊢
  (refine sI ?_; try with_reducible exact True.intro)
  have hg24 := hg3.trans hg4
  have hg14 := hg2.trans hg24
  have hg04 := hg1.trans hg14
  have n1 : decide (X = X) = true := decide_eq_true rfl
  have n2 : decide (Y = Y) = true := decide_eq_true rfl
  have n3 : decide (cutS s off = cutS s off) = true := decide_eq_true rfl
  (intros; try refine go_st ?_); refine go_x _ (List.Sublist.refl _) (by decide) ?_; (refine sJ c11r9.eq_1 ?_; try with_reducible exact True.intro)
  refine (SSame_ok X X _ _ G4 ⟨A1, c1, rfl, SB.le hv1 hg14, hX⟩ ⟨A2, c2, rfl, SB.le hv2 hg24, hX⟩ _ _).mono ?_; rintro _ _ ⟨rfl, rfl⟩; (refine sJ @n1 ?_; try with_reducible exact True.intro)
  refine (SSame_ok Y Y _ _ G4 ⟨A3, c3, rfl, SB.le hv3 hg4, hY⟩ ⟨A4, c4, rfl, hv4, hY⟩ _ _).mono ?_; rintro _ _ ⟨rfl, rfl⟩; (refine sJ @n2 ?_; try with_reducible exact True.intro)
  refine (ownSg_d (s := cutS s off) hib (Cut_ok s off _ G4 (SE.le hg04 hs0) (by omega) ho) _ _).mono ?_
  rintro r h' ⟨G5, rfl, hg5, A5, c5, rfl, hv5⟩
  refine ⟨grow_G hg5, ?_⟩
  (refine sI ?_; try with_reducible exact True.intro)
  refine (ownSg_d (s := cutS s off) hib (RCut_ok s off _ G5 (SE.le (hg04.trans hg5) hs0) (by omega) ho) _ _).mono ?_
  rintro r h' ⟨G6, rfl, hg6, A6, c6, rfl, hv6⟩
  refine ⟨grow_G (hg5.trans hg6), ?_⟩
  (refine sI ?_; try with_reducible exact True.intro)
  refine (SSame_ok _ _ _ _ G6 (SE.le hg6 hv5) hv6 _ _).mono ?_
  rintro _ _ ⟨rfl, rfl⟩
  refine ⟨grow_G (hg5.trans hg6), ?_⟩
  (refine sJ @n3 ?_; try with_reducible exact True.intro)
  (intros; try refine go_st ?_)
  refine go_ret (retQ_v rfl ?_); simp only [push_cast, Nat.reduceBEq]
end Go.Proofs.Ytfhheomeebejnaa
