/- Recv: plain laws of filling from behind. -/
import Derived.Test.YthfdjlhplcmicaaPw
namespace Go.Proofs.Ythfdjlhplcmicaa
set_option linter.unusedVariables false
set_option linter.unusedSimpArgs false

def fillL : Int → List Nt → List It
  | _, [] => []
  | q, y :: M => (q, y) :: fillL (q + 1) M
theorem fill_len : ∀ (M : List Nt) (q : Int), (fillL q M).length = M.length
  | [], _ => rfl
  | y :: M, q => by simp [fillL, fill_len M (q + 1)]
theorem fill_mem : ∀ (M : List Nt) (q : Int) (z : It), z ∈ fillL q M → q ≤ z.1 ∧ z.1 < q + (M.length : Nat)
  | [], _, _, h => by simp [fillL] at h
  | y :: M, q, z, h => by
    simp only [fillL, List.mem_cons] at h
    rcases h with rfl | h
    · simp only [List.length_cons]; omega
    · have := fill_mem M (q + 1) z h
      simp only [List.length_cons]; omega
theorem fill_sorted : ∀ (M : List Nt) (q : Int), Srt (fillL q M)
  | [], _ => .nil
  | y :: M, q => by
    refine List.pairwise_cons.2 ⟨fun z hz => ?_, fill_sorted M (q + 1)⟩
    have := fill_mem M (q + 1) z hz
    simp only; omega
theorem fill_right {n q : Int} {M : List Nt} (h1 : 1 ≤ n) (h2 : n ≤ 1048576) (hq : n < q) (hl : q + (M.length : Nat) ≤ n + 8) : RightL n (fillL q M) :=
  ⟨h1, by omega, fill_sorted M q, fun z hz => by have := fill_mem M q z hz; omega⟩
theorem fill_ins (q : Int) (y : Nt) (M : List Nt) : insI (fillL (q + 1) M) (q, y) = fillL q (y :: M) := by
  unfold insI
  rw [List.filter_eq_nil_iff.2 (fun z hz => by have := fill_mem M (q + 1) z hz; simp; omega), List.filter_eq_self.2 (fun z hz => by have := fill_mem M (q + 1) z hz; simp; omega)]
  rfl
theorem fill_open {n q : Int} {y : Nt} {M : List Nt} (h1 : 1 ≤ n) (h2 : n ≤ 1048576) (hq : n ≤ q) (hl : q + 1 + (M.length : Nat) ≤ n + 8) : takeF n (fillL (q + 1) M) (q, y) = popF n (fillL q (y :: M)) := by
  rw [take_go, fill_ins]
  have hR := fill_right (M := M) (q := q + 1) h1 h2 (by omega) hl
  intro h
  rw [shut_iff hR (by simp only; omega)] at h
  rcases h with h | h | ⟨z, hz, e⟩
  · simp only at h; omega
  · simp only at h; omega
  · have := fill_mem M (q + 1) z hz
    simp only at e; omega
theorem fill_take {n q : Int} {y : Nt} {M : List Nt} (h1 : 1 ≤ n) (h2 : n ≤ 1048576) (hq : n < q) (hl : q + 1 + (M.length : Nat) ≤ n + 8) : takeF n (fillL (q + 1) M) (q, y) = ((n, fillL q (y :: M)), []) := by
  rw [fill_open h1 h2 (by omega) hl]
  exact popF_stop (by simp only; omega)
theorem fill_pop : ∀ (M : List Nt) (n : Int), popF n (fillL n M) = ((n + (M.length : Nat), []), M)
  | [], n => by simp [fillL, popF]
  | y :: M, n => by
    show popF n ((n, y) :: fillL (n + 1) M) = _
    rw [popF_go (y := ((n, y) : It)) rfl, fill_pop M (n + 1)]
    simp only [List.length_cons, Prod.mk.injEq, and_true]
    omega
theorem fill_ack : ∀ (M : List Nt) (n : Int) (e : Nat), ackS n (fillL (n + 1 + e) M) + 2 ^ e = 2 ^ (e + M.length)
  | [], n, e => by simp [fillL, ackS]
  | y :: M, n, e => by
    have ih := fill_ack M n (e + 1)
    have he : n + 1 + (e : Int) + 1 = n + 1 + ((e + 1 : Nat) : Int) := by omega
    have hs : ackS n (fillL (n + 1 + e) (y :: M)) = 2 ^ e + ackS n (fillL (n + 1 + ((e + 1 : Nat) : Int)) M) := by
      show ackS n ((n + 1 + (e : Int), y) :: fillL (n + 1 + e + 1) M) = _
      rw [he]
      unfold ackS
      rw [List.map_cons, List.sum_cons]
      congr 2
      simp only; omega
    rw [hs, List.length_cons, show e + (M.length + 1) = e + 1 + M.length from by omega, ← ih, Nat.pow_succ]
    omega
/-- what waits when the notes from i on have come -/
def WL (n : Int) (i : Nat) (NS : List Nt) : List It := fillL (n + (i : Nat)) (NS.drop i)
section
variable {n : Int} {i : Nat} {NS : List Nt}
theorem wl_len : (WL n i NS).length = NS.length - i := by unfold WL; rw [fill_len, List.length_drop]
theorem wl_top : WL n NS.length NS = [] := by unfold WL; rw [List.drop_length]; rfl
theorem wl_mid (h1 : 1 ≤ n) (h2 : n ≤ 1048576) (h8 : NS.length ≤ 8) (hi : 1 ≤ i) (hl : i < NS.length) : takeF n (WL n (i + 1) NS) (n + (i : Nat), NS[i]) = ((n, WL n i NS), []) := by
  have hd := List.drop_eq_getElem_cons hl
  unfold WL
  rw [hd, show n + ((i + 1 : Nat) : Int) = n + (i : Nat) + 1 from by omega]
  exact fill_take h1 h2 (by omega) (by rw [List.length_drop]; omega)
theorem wl_end (h1 : 1 ≤ n) (h2 : n ≤ 1048576) (h8 : NS.length ≤ 8) (hl : 0 < NS.length) : takeF n (WL n 1 NS) (n, NS[0]) = ((n + (NS.length : Nat), []), NS) := by
  have hd := List.drop_eq_getElem_cons hl
  rw [List.drop_zero] at hd
  unfold WL
  rw [show n + ((1 : Nat) : Int) = n + 1 from by omega, fill_open h1 h2 (by omega) (by rw [List.length_drop]; omega), ← hd, fill_pop]
theorem wl_ack (h1 : 1 ≤ n) (h2 : n ≤ 1048576) (h8 : NS.length ≤ 8) (hi : 1 ≤ i) (hl : i < NS.length) : ∃ sa : Nat, ackF n (WL n i NS) = (n - 1, (sa : Int)) ∧ sa + 2 ^ (i - 1) = 2 ^ (NS.length - 1) := by
  have hR : RightL n (WL n i NS) := fill_right h1 h2 (by omega) (by rw [List.length_drop]; omega)
  refine ⟨ackS n (WL n i NS), if_pos (show rightF n _ = true from decide_eq_true hR), ?_⟩
  have := fill_ack (NS.drop i) n (i - 1)
  rw [show n + 1 + ((i - 1 : Nat) : Int) = n + (i : Nat) from by omega, List.length_drop, show i - 1 + (NS.length - i) = NS.length - 1 from by omega] at this
  exact this
end
end Go.Proofs.Ythfdjlhplcmicaa
