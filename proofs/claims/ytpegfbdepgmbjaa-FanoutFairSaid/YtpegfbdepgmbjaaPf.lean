import Derived.Test.YtpegfbdepgmbjaaP
namespace Go.Proofs.Ytpegfbdepgmbjaa
open Go.RowKit

/-! A region that draws, at one place of which two operations may come up: floats first, then either way. -/
def piOkF (ops : Array Oper) (i : Nat) (π1 : List (Nat × Bool)) (j : Nat) (π2 : List (Nat × Bool)) : List (Nat × Bool) → Array Bool → Bool
  | [], listed => Region.ready .any ops listed == [i, j] && (piOk ops π1 (listed.setIfInBounds i true) && piOk ops π2 (listed.setIfInBounds j true))
  | (k, fl) :: π, listed => fl && ((Region.ready .any ops listed).contains k && Region.free .any ops listed k) && piOkF ops i π1 j π2 π (listed.setIfInBounds k true)

def ForkQ (P : Program) (l : List Oper) (Q : Exit → Act → World → Prop) (S : World → Prop) (i : Nat) (π1 : List (Nat × Bool)) (j : Nat) (π2 : List (Nat × Bool)) : Exit → Act → World → Prop
  | .normal, a, w => wpPi P l Q S ((i, false) :: π1) a w ∧ wpPi P l Q S ((j, false) :: π2) a w
  | e, a, w => Q e a w

section
variable {P : Program} {l : List Oper} {Q : Exit → Act → World → Prop} {S : World → Prop} {a : Act} {w : World}

theorem anchor_sound (hsel : Region.noSelect l.toArray = true) (hQ : ∀ (c : _) (a : Act) (d : Option Tmp) (v : Value) (w : World), Q (.panic c) (a.put d v) w → Q (.panic c) a w)
    (i : Nat) (π : List (Nat × Bool)) (listed : Array Bool) (hB2 : piOk l.toArray π (listed.setIfInBounds i true) = true) (hS : S w) (h : wpPi P l Q S ((i, false) :: π) a w) :
    wpOp P l.toArray Q i (fun a' w' => S w' ∧ wpAnyH P .any l.toArray Q S π.length (listed.setIfInBounds i true) a' w') a w := by
  obtain ⟨o, ho, h⟩ := h
  have hi : l.toArray[i]? = some o := by rw [nthO_get] at ho; simpa using ho
  unfold wpOp
  simp only [hi]
  by_cases hw : Region.wanted o (yielded l.toArray a.tmps) = true
  · simp only [hw, if_true, Bool.false_eq_true, if_false] at h
    simp only [hw, if_true]
    exact .inl (Oper.wp_mono (fun a' w' h' => ⟨h'.1, pi_sound hsel hQ π _ a' w' hB2 h'.1 h'.2⟩) h)
  · have hw' : Region.wanted o (yielded l.toArray a.tmps) = false := by simpa using hw
    simp only [hw', Bool.false_eq_true, if_false] at h ⊢
    exact ⟨hS, pi_sound hsel hQ π _ _ w hB2 hS h⟩

theorem fork_sound (hsel : Region.noSelect l.toArray = true) (hQ : ∀ (c : _) (a : Act) (d : Option Tmp) (v : Value) (w : World), Q (.panic c) (a.put d v) w → Q (.panic c) a w)
    (i : Nat) (π1 : List (Nat × Bool)) (j : Nat) (π2 : List (Nat × Bool)) (hlen : π2.length = π1.length) :
    ∀ (π : List (Nat × Bool)) (listed : Array Bool) (a : Act) (w : World), piOkF l.toArray i π1 j π2 π listed = true → S w → wpPi P l (ForkQ P l Q S i π1 j π2) S π a w → wpAnyH P .any l.toArray Q S (π.length + (π1.length + 1)) listed a w
  | [], listed, a, w, hB, hS, h => by
    simp only [piOkF, Bool.and_eq_true, beq_iff_eq] at hB
    obtain ⟨hr, h1, h2⟩ := hB
    have h' : wpPi P l Q S ((i, false) :: π1) a w ∧ wpPi P l Q S ((j, false) :: π2) a w := h
    rw [List.length_nil, Nat.zero_add]
    refine wpAnyH_all hr (by simp) fun k hk => ?_
    rcases List.mem_cons.1 hk with rfl | hk
    · exact anchor_sound hsel hQ k π1 listed h1 hS h'.1
    · have : k = j := by simpa using hk
      subst this
      rw [← hlen]
      exact anchor_sound hsel hQ k π2 listed h2 hS h'.2
  | (k, fl) :: π, listed, a, w, hB, hS, h => by
    obtain ⟨o, ho, h⟩ := h
    have hi : l.toArray[k]? = some o := by rw [nthO_get] at ho; simpa using ho
    simp only [piOkF, Bool.and_eq_true] at hB
    obtain ⟨⟨rfl, hB1⟩, hB2⟩ := hB
    rw [List.length_cons, show π.length + 1 + (π1.length + 1) = π.length + (π1.length + 1) + 1 by omega]
    by_cases hw : Region.wanted o (yielded l.toArray a.tmps) = true
    · simp only [hw, if_true] at h
      obtain ⟨v, hv, h⟩ := h
      exact wpAnyH_take hi hsel hB1.2 hB1.1 (fun c a w => hQ c a _ _ w) (.inl ⟨hw, hv⟩) hS (fork_sound hsel hQ i π1 j π2 hlen π _ _ w hB2 hS h)
    · have hw' : Region.wanted o (yielded l.toArray a.tmps) = false := by simpa using hw
      simp only [hw', Bool.false_eq_true, if_false] at h
      exact wpAnyH_take hi hsel hB1.2 hB1.1 (fun c a w => hQ c a _ _ w) (.inr ⟨hw', rfl⟩) hS (fork_sound hsel hQ i π1 j π2 hlen π _ _ w hB2 hS h)

theorem region_fork {id : Nat} (S : World → Prop) (π : List (Nat × Bool)) (i : Nat) (π1 : List (Nat × Bool)) (j : Nat) (π2 : List (Nat × Bool)) (hm : P.follows .mixedOrders = true) (hsel : Region.noSelect l.toArray = true)
    (hlen : π2.length = π1.length) (hn : π.length + (π1.length + 1) = l.length)
    (hB : piOkF l.toArray i π1 j π2 π (Array.replicate l.length false) = true) (hS : S w.drew) (h : wpPi P l (ForkQ P l (NoPanic Q) S i π1 j π2) S π a w.drew) : (Code.region id l.toArray true).wp P Q a w := by
  refine wp_region_noPanic (wp_region_held (S := S) hm ?_)
  have := fork_sound (P := P) (l := l) (Q := NoPanic Q) (S := S) hsel (fun c a d v w h => h) i π1 j π2 hlen π (Array.replicate l.length false) a w.drew hB hS h
  rw [hn] at this
  simpa using this
end
end Go.Proofs.Ytpegfbdepgmbjaa
