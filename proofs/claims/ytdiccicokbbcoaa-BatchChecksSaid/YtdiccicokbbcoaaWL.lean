/- Bytes, part 12 of a proof: a batch's bytes, the form. No condition. -/
import Derived.Test.YtdiccicokbbcoaaWK
import Derived.Test.YtdiccicokbbcoaaWH
set_option linter.unusedSimpArgs false
set_option linter.unusedVariables false
namespace Go.Proofs.Ytdiccicokbbcoaa
open Go Go.Kx
def headN (b : Batch) : List Int := [b.base, b.last - b.base, b.src, b.epoch, b.pid, b.gen, b.seq]
def headB (l : List Int) : List UInt8 := l.flatMap pvB
def markB (b : Batch) : UInt8 := UInt8.ofNat (b.ctl.toNat + if b.txn = true then 4 else 0)
/-- The records' bytes. -/
def recsB (base stamp : Int) (l : List Rec) : List UInt8 := l.flatMap fun r => prB r base stamp
def tailB (b : Batch) : List UInt8 := match b.recs with
  | [] => []
  | r :: rs => pvB r.stamp ++ recsB b.base r.stamp (r :: rs)
def bodyB (b : Batch) : List UInt8 := headB (headN b) ++ [markB b] ++ pvB b.recs.length ++ tailB b
def bytesB (b : Batch) : List UInt8 := putN (sealB (bodyB b)).length 4 ++ sealB (bodyB b)
theorem headB_len : ∀ (l : List Int), (headB l).length ≤ 10 * l.length
  | [] => by simp [headB]
  | n :: l => by
    have := headB_len l
    have h2 := pvB_len n
    simp [headB] at this ⊢
    omega
theorem headB_succ {l : List Int} {k : Nat} {n : Int} (h : l[k]? = some n) : headB (l.take (k + 1)) = headB (l.take k) ++ pvB n := by
  have hk := List.getElem?_eq_some_iff.1 h
  rw [List.take_succ_eq_append_getElem hk.1, hk.2]
  simp [headB]
theorem recsB_succ {base stamp : Int} {l : List Rec} {k : Nat} {r : Rec} (h : l[k]? = some r) : recsB base stamp (l.take (k + 1)) = recsB base stamp (l.take k) ++ prB r base stamp := by
  have hk := List.getElem?_eq_some_iff.1 h
  rw [List.take_succ_eq_append_getElem hk.1, hk.2]
  simp [recsB]
theorem prB_len {r : Rec} {base stamp : Int} (hk : r.key.size ≤ 64) (hv : r.val.size ≤ 64) : (prB r base stamp).length ≤ 169 := by
  have h1 := pvB_len (r.off - base)
  have h2 := pvB_len (r.stamp - stamp)
  have h3 := ptB_len r.key
  have h4 := ptB_len r.val
  simp [prB]
  omega
/-- Of records in order: that each may be, and how many there are. -/
theorem rowF_all : ∀ (l : List Rec) (last nx : Int), rowF last nx l = true → (∀ r ∈ l, chkR r = 0) ∧ nx + l.length ≤ max nx (last + 1)
  | [], last, nx, _ => ⟨by simp, by simp; omega⟩
  | r :: l, last, nx, h => by
    simp only [rowF, Bool.and_eq_true, decide_eq_true_eq] at h
    obtain ⟨⟨⟨h1, h2⟩, h3⟩, h4⟩ := h
    obtain ⟨h5, h6⟩ := rowF_all l last (r.off + 1) h4
    refine ⟨fun x hx => ?_, ?_⟩
    · rcases List.mem_cons.1 hx with rfl | hx
      · exact h1
      · exact h5 x hx
    · simp
      omega
theorem form_recs {b : Batch} (h : Form b) : (∀ r ∈ b.recs, chkR r = 0) ∧ b.recs.length ≤ 16 := by
  rcases h.2.2.2.2.2 with h9 | h9
  · obtain ⟨h1, h2⟩ := rowF_all _ _ _ h9.2
    have := h.2.2.1
    exact ⟨h1, by omega⟩
  · rw [h9.2.2.1]
    exact ⟨by simp, by simp⟩
end Go.Proofs.Ytdiccicokbbcoaa
