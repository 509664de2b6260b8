/- Roster: RosterMeets, proved: who asked, and was approved, watches, till it leaves, or is revoked, or blocked. -/
import Derived.Test.YtfehhenbdiageaaUk
namespace Go.Proofs.Ytfehhenbdiageaa
open Go.ChangeShapes Go.WideShapes Go.ChangeAt Go.RowKit Go.Maps
set_option linter.unusedVariables false
set_option linter.unusedSimpArgs false

theorem do_put {L : List Tm} {op who peer x z s t : Int} (hR : RightL L) (hb : ¬ badP op who peer) (hx : wchF op who peer = x) (hz : tgtF op who peer = z) (hs : stF L x z = s) (h0 : s ≠ 0) (ht : stepF s op = (t, 0)) : doF L op who peer = (putF L x z t, 0) := by
  unfold doF actF
  rw [if_neg hb, hx, hz, hs, ht]
  simp [h0]
theorem not_bad {op who peer : Int} (h1 : 1 ≤ op) (h2 : op ≤ 7) (h3 : userB who = true) (h4 : userB peer = true) (h5 : who ≠ peer) : ¬ badP op who peer := by
  unfold badP
  rw [h3, h4]
  simp
  omega
theorem do_app {L : List Tm} {x z : Int} (hR : RightL L) (h1 : userB x = true) (h2 : userB z = true) (h3 : x ≠ z) (hs : stF L x z = 1) : doF L 3 z x = (putF L x z 2, 0) :=
  do_put hR (not_bad (by omega) (by omega) h2 h1 (by omega)) rfl rfl hs (by omega) rfl
theorem do_end {L : List Tm} {x z : Int} (hR : RightL L) (h1 : userB x = true) (h2 : userB z = true) (h3 : x ≠ z) (hs : stF L x z = 2) :
    doF L 2 x z = (putF L x z 0, 0) ∧ doF L 5 z x = (putF L x z 0, 0) ∧ doF L 6 z x = (putF L x z 4, 0) :=
  ⟨do_put hR (not_bad (by omega) (by omega) h1 h2 h3) rfl rfl hs (by omega) rfl, do_put hR (not_bad (by omega) (by omega) h2 h1 (by omega)) rfl rfl hs (by omega) rfl, do_put hR (not_bad (by omega) (by omega) h2 h1 (by omega)) rfl rfl hs (by omega) rfl⟩
theorem meet_wat (L : List Tm) (x z : Int) : ∃ U V : List Int, (∀ s, (s = 2 → watF (putF L x z s) z = U ++ ([x] ++ V)) ∧ (s ≠ 2 → watF (putF L x z s) z = U ++ V)) ∧ (x ∉ U ∧ x ∉ V) := by
  refine ⟨watF (Aof L x z) z, watF (Bof L x z) z, fun s => ⟨fun e => ?_, fun e => ?_⟩, ?_, ?_⟩
  · subst e
    rw [put_eq]
    unfold watF
    rw [fm_app, fm_app, fm_Mx1 (by decide) (by simp [watP])]
  · rw [put_eq]
    unfold watF
    rw [fm_app, fm_app, fm_Mx (fun _ => by simp [watP, e])]
    rfl
  · intro h
    unfold watF fmF at h
    obtain ⟨y, hy, he⟩ := List.mem_map.1 h
    obtain ⟨hm, hp⟩ := List.mem_filter.1 hy
    have hp := of_decide_eq_true hp
    exact A_ne hm ⟨he, hp.1⟩
  · intro h
    unfold watF fmF at h
    obtain ⟨y, hy, he⟩ := List.mem_map.1 h
    obtain ⟨hm, hp⟩ := List.mem_filter.1 hy
    have hp := of_decide_eq_true hp
    exact B_ne hm ⟨he, hp.1⟩
section
variable {W : List Int} {k : Nat} {x y : Int}
theorem tk_mem (hy : W[k]? = some y) : x ∈ W.take (k + 1) ↔ x ∈ W.take k ∨ x = y := by
  obtain ⟨hk, e⟩ := List.getElem?_eq_some_iff.1 hy
  rw [List.take_succ_eq_append_getElem hk, List.mem_append, e]
  simp
theorem had_yes (h : true = true ↔ x ∈ W.take k) (hy : W[k]? = some y) : true = true ↔ x ∈ W.take (k + 1) := by
  rw [tk_mem hy]; exact ⟨fun e => .inl (h.1 e), fun _ => rfl⟩
theorem had_here (hy : W[k]? = some y) (e : y = x) : true = true ↔ x ∈ W.take (k + 1) := by
  rw [tk_mem hy]; exact ⟨fun _ => .inr e.symm, fun _ => rfl⟩
theorem had_not (h : false = true ↔ x ∈ W.take k) (hy : W[k]? = some y) (e : ¬ y = x) : false = true ↔ x ∈ W.take (k + 1) := by
  rw [tk_mem hy]
  constructor
  · intro e2; cases e2
  · rintro (h2 | h2)
    · exact h.2 h2
    · exact absurd h2.symm e
end
def MeI (W : World) (who : Int) (Am : Option Addr) (nm : Nat) (An : Option Addr) (nn : Nat) (WM WN : List Int) (a : Act) (w : World) : Prop :=
  ∃ (k : Nat) (hd : Bool), Kn a 119 [(1, .int .i64 who), (9, .bool true), (11, .int .i64 0), (15, .int .i64 0), (16, .slice Am WM.length nm), (17, .slice An WN.length nn), (18, .bool hd), (19, .int .i64 (k : Nat))] ∧ k ≤ WM.length ∧ (hd = true ↔ who ∈ WM.take k) ∧ Holds w Am (FV enc1 WM) ∧ Holds w An (FV enc1 WN) ∧ Below W.heap.size W w
def MfI (W : World) (who : Int) (Am : Option Addr) (nm : Nat) (An : Option Addr) (nn : Nat) (WM WN : List Int) (a : Act) (w : World) : Prop :=
  ∃ (k : Nat), Kn a 119 [(1, .int .i64 who), (9, .bool true), (11, .int .i64 0), (15, .int .i64 0), (16, .slice Am WM.length nm), (17, .slice An WN.length nn), (18, .bool true), (20, .int .i64 (k : Nat))] ∧ k ≤ WN.length ∧ Holds w An (FV enc1 WN) ∧ Below W.heap.size W w
set_option maxHeartbeats 8000000 in
theorem meets_walk (w : World) (v : Value) (L : List Tm) (who peer en : Int) (h : TRow w v L) (hn : L.length ≤ 9223372036854775807) (hLW : LWF L) :
    Calls Try.prog 7 #[v, .int .i64 who, .int .i64 peer, .int .i64 en] w fun e w' => e = .returned (.bool true) ∧ Below w.heap.size w w' := by
  have hall := Below.refl w.heap.size w
  have hwf : Hid (∀ x ∈ L, (Lit.int .i64 x.1).wf = true) := Lib.hid fun x hx => (hLW x hx).1
  cases hr : rightF L
  · skip
    refine K_enter 119 Try.func7 rfl rfl fun a H => ?_
    replace H := H.pick [0, 1, 2, 3]
    refine wp_seq ?_
    refine wp_region_lit ?_
    refine wl_v _ (r_assign evc) ?_; refine kl H rfl fun a H => ?_
    refine wpList_nil ?_
    refine c_next ?_
    refine wp_seq ?_
    refine wp_region_lit ?_
    refine wl_call _ _ _ (small_any _) (r_call0 cf10) ?_; rintro e w9 ⟨rfl, hb⟩; refine ⟨_, rfl, ?_⟩; replace h := Row.up h hb; replace hall := hall.trans (hb.mono hall.size); clear hb; refine kl H rfl fun a H => ?_
    refine wl_v _ (r_assign (H.ev rfl)) ?_; refine kl H rfl fun a H => ?_
    refine wpList_nil ?_
    refine c_next ?_
    refine wp_seq ?_
    refine wp_seq ?_
    refine wp_region_lit ?_
    refine wl_v _ (r_move (H.ev rfl)) ?_; refine kl H rfl fun a H => ?_
    refine wl_call _ _ _ (right_any _ _ L h hn hwf.out) (r_call1 cf11 (H.ev rfl)) ?_; rintro e w9 ⟨rfl, hb⟩; refine ⟨_, rfl, ?_⟩; rw [hr]; replace h := Row.up h hb; replace hall := hall.trans (hb.mono hall.size); clear hb; refine kl H rfl fun a H => ?_
    refine wl_v _ (r_not (H.ev rfl) rfl) ?_; refine kl H rfl fun a H => ?_
    refine wl_v _ (r_move (H.ev rfl)) ?_; refine kl H rfl fun a H => ?_
    refine wl_s (kg_no rfl H rfl rfl rfl) ?_; refine kl H rfl fun a H => ?_
    refine wl_s (kg_no rfl H rfl rfl rfl) ?_; refine kl H rfl fun a H => ?_
    refine wl_s (kg_no rfl H rfl rfl rfl) ?_; refine kl H rfl fun a H => ?_
    refine wl_s (kg_no rfl H rfl rfl rfl) ?_; refine kl H rfl fun a H => ?_
    refine wl_s (kg_no rfl H rfl rfl rfl) ?_; refine kl H rfl fun a H => ?_
    refine wl_v _ (r_pick_t (H.ev rfl) evc) ?_; refine kl H rfl fun a H => ?_
    refine wl_v _ (r_move (H.ev rfl)) ?_; refine kl H rfl fun a H => ?_
    refine wl_s (kg_no rfl H rfl rfl rfl) ?_; refine kl H rfl fun a H => ?_
    refine wl_s (kg_no rfl H rfl rfl rfl) ?_; refine kl H rfl fun a H => ?_
    refine wl_s (kg_no rfl H rfl rfl rfl) ?_; refine kl H rfl fun a H => ?_
    refine wl_s (kg_un rfl H rfl rfl rfl) ?_; refine kl H rfl fun a H => ?_
    refine wl_s (kg_un rfl H rfl rfl rfl) ?_; refine kl H rfl fun a H => ?_
    refine wl_s (kg_no rfl H rfl rfl rfl) ?_; refine kl H rfl fun a H => ?_
    refine wl_s (kg_no rfl H rfl rfl rfl) ?_; refine kl H rfl fun a H => ?_
    refine wl_s (kg_un rfl H rfl rfl rfl) ?_; refine kl H rfl fun a H => ?_
    refine wl_s (kg_un rfl H rfl rfl rfl) ?_; refine kl H rfl fun a H => ?_
    refine wl_s (kg_no rfl H rfl rfl rfl) ?_; refine kl H rfl fun a H => ?_
    refine wl_v _ (r_pick_t (H.ev rfl) evc) ?_; refine kl H rfl fun a H => ?_
    refine wpList_nil ?_
    refine c_next ?_
    refine c_cond_t H rfl ?_
    refine wp_seq ?_
    refine wp_region_lit ?_
    refine wl_v _ (r_move (H.ev rfl)) ?_; refine kl H rfl fun a H => ?_
    refine wl_v _ (r_assign (H.ev rfl)) ?_; refine kl H rfl fun a H => ?_
    refine wpList_nil ?_
    refine c_next ?_
    refine wp_ret ?_
    refine r_then ?_
    exact k_ret1 H rfl rfl ⟨rfl, hall⟩
  · skip
    have hR := (right_iff L).1 hr
    have hl := hR.2.2.2
    have HR := Lib.hid hR
    clear hR
    obtain ⟨s, hs⟩ : ∃ s, stF L who peer = s := ⟨_, rfl⟩
    have HS := Lib.hid hs
    clear hs
    refine K_enter 119 Try.func7 rfl rfl fun a H => ?_
    replace H := H.pick [0, 1, 2, 3]
    refine wp_seq ?_
    refine wp_region_lit ?_
    refine wl_v _ (r_assign evc) ?_; refine kl H rfl fun a H => ?_
    refine wpList_nil ?_
    refine c_next ?_
    refine wp_seq ?_
    refine wp_region_lit ?_
    refine wl_call _ _ _ (small_any _) (r_call0 cf10) ?_; rintro e w9 ⟨rfl, hb⟩; refine ⟨_, rfl, ?_⟩; replace h := Row.up h hb; replace hall := hall.trans (hb.mono hall.size); clear hb; refine kl H rfl fun a H => ?_
    refine wl_v _ (r_assign (H.ev rfl)) ?_; refine kl H rfl fun a H => ?_
    refine wpList_nil ?_
    refine c_next ?_
    refine wp_seq ?_
    refine wp_seq ?_
    refine wp_region_lit ?_
    refine wl_v _ (r_move (H.ev rfl)) ?_; refine kl H rfl fun a H => ?_
    refine wl_call _ _ _ (right_any _ _ L h hn hwf.out) (r_call1 cf11 (H.ev rfl)) ?_; rintro e w9 ⟨rfl, hb⟩; refine ⟨_, rfl, ?_⟩; rw [hr]; replace h := Row.up h hb; replace hall := hall.trans (hb.mono hall.size); clear hb; refine kl H rfl fun a H => ?_
    refine wl_v _ (r_not (H.ev rfl) rfl) ?_; refine kl H rfl fun a H => ?_
    refine wl_v _ (r_move (H.ev rfl)) ?_; refine kl H rfl fun a H => ?_
    refine op_unguard _ _ (kg_yes rfl H rfl rfl rfl) ?_; refine wl_v _ (r_move (H.ev rfl)) ?_; refine kl H rfl fun a H => ?_
    refine op_unguard _ _ (kg_yes rfl H rfl rfl rfl) ?_; refine wl_v _ (r_move (H.ev rfl)) ?_; refine kl H rfl fun a H => ?_
    refine op_unguard _ _ (kg_yes rfl H rfl rfl rfl) ?_; refine wl_v _ (r_move (H.ev rfl)) ?_; refine kl H rfl fun a H => ?_
    refine op_unguard _ _ (kg_yes rfl H rfl rfl rfl) ?_; refine wl_call _ _ _ (state_any _ _ L who peer h (by omega) HR.out.1) (r_call3 cf16 (H.ev rfl) (H.ev rfl) (H.ev rfl)) ?_; rintro e w9 ⟨rfl, hb⟩; refine ⟨_, rfl, ?_⟩; rw [HS.out]; replace h := Row.up h hb; replace hall := hall.trans (hb.mono hall.size); clear hb; refine kl H rfl fun a H => ?_
    by_cases c0 : s ≠ 1
    · skip
      refine op_unguard _ _ (kg_yes rfl H rfl rfl rfl) ?_; refine wl_v _ (r_ne Try.underlying3 (H.ev rfl) evc (dec_t (c0))) ?_; refine kl H rfl fun a H => ?_
      refine wl_v _ (r_pick_f (H.ev rfl) (H.ev rfl)) ?_; refine kl H rfl fun a H => ?_
      refine wl_v _ (r_move (H.ev rfl)) ?_; refine kl H rfl fun a H => ?_
      refine wl_s (kg_no rfl H rfl rfl rfl) ?_; refine kl H rfl fun a H => ?_
      refine wl_s (kg_no rfl H rfl rfl rfl) ?_; refine kl H rfl fun a H => ?_
      refine wl_s (kg_no rfl H rfl rfl rfl) ?_; refine kl H rfl fun a H => ?_
      refine wl_s (kg_un rfl H rfl rfl rfl) ?_; refine kl H rfl fun a H => ?_
      refine wl_s (kg_un rfl H rfl rfl rfl) ?_; refine kl H rfl fun a H => ?_
      refine wl_s (kg_no rfl H rfl rfl rfl) ?_; refine kl H rfl fun a H => ?_
      refine wl_s (kg_no rfl H rfl rfl rfl) ?_; refine kl H rfl fun a H => ?_
      refine wl_s (kg_un rfl H rfl rfl rfl) ?_; refine kl H rfl fun a H => ?_
      refine wl_s (kg_un rfl H rfl rfl rfl) ?_; refine kl H rfl fun a H => ?_
      refine wl_s (kg_no rfl H rfl rfl rfl) ?_; refine kl H rfl fun a H => ?_
      refine wl_v _ (r_pick_t (H.ev rfl) evc) ?_; refine kl H rfl fun a H => ?_
      refine wpList_nil ?_
      refine c_next ?_
      refine c_cond_t H rfl ?_
      refine wp_seq ?_
      refine wp_region_lit ?_
      refine wl_v _ (r_move (H.ev rfl)) ?_; refine kl H rfl fun a H => ?_
      refine wl_v _ (r_assign (H.ev rfl)) ?_; refine kl H rfl fun a H => ?_
      refine wpList_nil ?_
      refine c_next ?_
      refine wp_ret ?_
      refine r_then ?_
      exact k_ret1 H rfl rfl ⟨rfl, hall⟩
    · skip
      refine op_unguard _ _ (kg_yes rfl H rfl rfl rfl) ?_; refine wl_v _ (r_ne Try.underlying3 (H.ev rfl) evc (dec_f (c0))) ?_; refine kl H rfl fun a H => ?_
      refine wl_v _ (r_pick_f (H.ev rfl) (H.ev rfl)) ?_; refine kl H rfl fun a H => ?_
      refine wl_v _ (r_move (H.ev rfl)) ?_; refine kl H rfl fun a H => ?_
      refine op_unguard _ _ (kg_yes rfl H rfl rfl rfl) ?_; refine wl_v _ (r_move (H.ev rfl)) ?_; refine kl H rfl fun a H => ?_
      by_cases c1 : en ≠ 2
      · skip
        refine op_unguard _ _ (kg_yes rfl H rfl rfl rfl) ?_; refine wl_v _ (r_ne Try.underlying3 (H.ev rfl) evc (dec_t (c1))) ?_; refine kl H rfl fun a H => ?_
        refine op_unguard _ _ (kg_yes rfl H rfl rfl rfl) ?_; refine wl_v _ (r_move (H.ev rfl)) ?_; refine kl H rfl fun a H => ?_
        refine op_unguard _ _ (kg_yes rfl H rfl rfl rfl) ?_; refine wl_v _ (r_move (H.ev rfl)) ?_; refine kl H rfl fun a H => ?_
        by_cases c2 : en ≠ 5
        · skip
          refine op_unguard _ _ (kg_yes rfl H rfl rfl rfl) ?_; refine wl_v _ (r_ne Try.underlying3 (H.ev rfl) evc (dec_t (c2))) ?_; refine kl H rfl fun a H => ?_
          refine op_unguard _ _ (kg_yes rfl H rfl rfl rfl) ?_; refine wl_v _ (r_pick_t (H.ev rfl) (H.ev rfl)) ?_; refine kl H rfl fun a H => ?_
          refine op_unguard _ _ (kg_yes rfl H rfl rfl rfl) ?_; refine wl_v _ (r_move (H.ev rfl)) ?_; refine kl H rfl fun a H => ?_
          refine op_unguard _ _ (kg_yes rfl H rfl rfl rfl) ?_; refine wl_v _ (r_move (H.ev rfl)) ?_; refine kl H rfl fun a H => ?_
          by_cases c3 : en ≠ 6
          · skip
            refine op_unguard _ _ (kg_yes rfl H rfl rfl rfl) ?_; refine wl_v _ (r_ne Try.underlying3 (H.ev rfl) evc (dec_t (c3))) ?_; refine kl H rfl fun a H => ?_
            refine op_unguard _ _ (kg_yes rfl H rfl rfl rfl) ?_; refine wl_v _ (r_pick_t (H.ev rfl) (H.ev rfl)) ?_; refine kl H rfl fun a H => ?_
            refine wl_v _ (r_pick_f (H.ev rfl) (H.ev rfl)) ?_; refine kl H rfl fun a H => ?_
            refine wpList_nil ?_
            refine c_next ?_
            refine c_cond_t H rfl ?_
            refine wp_seq ?_
            refine wp_region_lit ?_
            refine wl_v _ (r_move (H.ev rfl)) ?_; refine kl H rfl fun a H => ?_
            refine wl_v _ (r_assign (H.ev rfl)) ?_; refine kl H rfl fun a H => ?_
            refine wpList_nil ?_
            refine c_next ?_
            refine wp_ret ?_
            refine r_then ?_
            exact k_ret1 H rfl rfl ⟨rfl, hall⟩
          · skip
            refine op_unguard _ _ (kg_yes rfl H rfl rfl rfl) ?_; refine wl_v _ (r_ne Try.underlying3 (H.ev rfl) evc (dec_f (c3))) ?_; refine kl H rfl fun a H => ?_
            refine op_unguard _ _ (kg_yes rfl H rfl rfl rfl) ?_; refine wl_v _ (r_pick_t (H.ev rfl) (H.ev rfl)) ?_; refine kl H rfl fun a H => ?_
            refine wl_v _ (r_pick_f (H.ev rfl) (H.ev rfl)) ?_; refine kl H rfl fun a H => ?_
            refine wpList_nil ?_
            refine c_next ?_
            refine c_cond_f H rfl ?_
            refine wp_skip ?_
            refine c_next ?_
            refine wp_seq ?_
            obtain rfl : s = 1 := by omega
            obtain ⟨U1, U2, U3⟩ := st_user HR.out (x := who) (z := peer) (by rw [HS.out]; simp)
            obtain ⟨M, hM⟩ : ∃ M, (doF L 3 peer who).1 = M := ⟨_, rfl⟩
            have hD := do_app HR.out U1 U2 U3 HS.out
            have HM := Lib.hid hM
            have HE : Hid ((doF L 3 peer who).2 = 0) := Lib.hid (by rw [hD])
            have hMp : M = putF L who peer 2 := by rw [← hM, hD]
            have hRM : RightL M := by rw [← hM]; exact right_do HR.out _ _ _
            have hMl := hRM.2.2.2
            have HRM := Lib.hid hRM
            have HMP := Lib.hid hMp
            obtain ⟨U, V, hWM, hno⟩ := meet_wat L who peer
            have HNO := Lib.hid hno
            have hWM1 : watF M peer = U ++ ([who] ++ V) := by rw [hMp]; exact (hWM 2).1 rfl
            obtain ⟨WM, hwm⟩ : ∃ WM, U ++ ([who] ++ V) = WM := ⟨_, rfl⟩
            have HWM : Hid (watF M peer = WM) := Lib.hid (by rw [hWM1, hwm])
            have HWM2 := Lib.hid hwm
            have hwml : WM.length ≤ 64 := by rw [← hwm, ← hWM1]; exact Nat.le_trans fm_le hMl
            obtain ⟨WN, hwn⟩ : ∃ WN, U ++ V = WN := ⟨_, rfl⟩
            have HWN2 := Lib.hid hwn
            have hwnl : WM.length = WN.length + 1 := by rw [← hwm, ← hwn]; simp; omega
            have HWP := Lib.hid hWM
            clear hM hD hMp hRM hWM hno hWM1 hwm hwn
            refine wp_region_lit ?_
            refine wl_v _ (r_move (H.ev rfl)) ?_; refine kl H rfl fun a H => ?_
            refine wl_v _ (r_move (H.ev rfl)) ?_; refine kl H rfl fun a H => ?_
            refine wl_v _ (r_move (H.ev rfl)) ?_; refine kl H rfl fun a H => ?_
            refine wl_call _ _ _ (do_any _ _ L 3 peer who h (by omega) HR.out) (r_call4 cf13 (H.ev rfl) evc (H.ev rfl) (H.ev rfl)) ?_; rintro e w9 ⟨⟨vm, rfl, hown⟩, hb⟩; refine ⟨_, rfl, ?_⟩; rw [HE.out]; replace h := Row.up h hb; replace hall := hall.trans (hb.mono hall.size); clear hb; rw [HM.out] at hown; have rm := TOwn.row hown; clear hown; refine kl H rfl fun a H => ?_
            refine wl_v _ (r_move (H.ev rfl)) ?_; refine kl H rfl fun a H => ?_
            refine wl_v _ (r_extract (v := vm) (H.ev rfl) rfl) ?_; refine kl H rfl fun a H => ?_
            refine wl_v _ (r_extract (v := .int .i64 0) (H.ev rfl) rfl) ?_; refine kl H rfl fun a H => ?_
            refine wl_v _ (r_assign (H.ev rfl)) ?_; refine kl H rfl fun a H => ?_
            refine wl_v _ (r_assign (H.ev rfl)) ?_; refine kl H rfl fun a H => ?_
            refine wpList_nil ?_
            refine c_next ?_
            refine wp_seq ?_
            refine wp_region_lit ?_
            refine wl_v _ (r_move (H.ev rfl)) ?_; refine kl H rfl fun a H => ?_
            refine wl_v _ (r_assign (H.ev rfl)) ?_; refine kl H rfl fun a H => ?_
            refine wpList_nil ?_
            refine c_next ?_
            refine wp_seq ?_
            refine wp_region_lit ?_
            refine wl_v _ (r_move (H.ev rfl)) ?_; refine kl H rfl fun a H => ?_
            refine wl_v _ (r_assign (H.ev rfl)) ?_; refine kl H rfl fun a H => ?_
            refine wpList_nil ?_
            refine c_next ?_
            refine wp_seq ?_
            refine wp_seq ?_
            refine wp_region_lit ?_
            refine wl_v _ (r_move (H.ev rfl)) ?_; refine kl H rfl fun a H => ?_
            refine wl_v _ (r_eq Try.underlying3 (H.ev rfl) evc (dec_f (by omega))) ?_; refine kl H rfl fun a H => ?_
            refine wpList_nil ?_
            refine c_next ?_
            refine c_cond_f H rfl ?_
            refine wp_skip ?_
            refine c_next ?_
            refine wp_seq ?_
            obtain rfl : en = 6 := by omega
            have hD2 := do_end HRM.out U1 U2 U3 (by rw [HMP.out]; exact st_same _ _ _ _)
            have hD2 := hD2.2.2
            obtain ⟨N, hN⟩ : ∃ N, (doF M 6 peer who).1 = N := ⟨_, rfl⟩
            have HN := Lib.hid hN
            have HE2 : Hid ((doF M 6 peer who).2 = 0) := Lib.hid (by rw [hD2])
            have hNp : N = putF L who peer 4 := by rw [← hN, hD2, HMP.out, put_put]
            have hRN : RightL N := by rw [← hN]; exact right_do HRM.out _ _ _
            have hNl := hRN.2.2.2
            have HWN : Hid (watF N peer = WN) := Lib.hid (by rw [hNp, (HWP.out 4).2 (by decide)]; exact HWN2.out)
            clear hD2 hN hNp hRN
            refine wp_region_lit ?_
            refine wl_v _ (r_move (H.ev rfl)) ?_; refine kl H rfl fun a H => ?_
            refine wl_v _ (r_move (H.ev rfl)) ?_; refine kl H rfl fun a H => ?_
            refine wl_v _ (r_move (H.ev rfl)) ?_; refine kl H rfl fun a H => ?_
            refine wl_v _ (r_move (H.ev rfl)) ?_; refine kl H rfl fun a H => ?_
            refine wl_call _ _ _ (do_any _ _ M 6 peer who rm (by omega) HRM.out) (r_call4 cf13 (H.ev rfl) (H.ev rfl) (H.ev rfl) (H.ev rfl)) ?_; rintro e w9 ⟨⟨vn, rfl, hown⟩, hb⟩; refine ⟨_, rfl, ?_⟩; rw [HE2.out]; replace h := Row.up h hb; replace rm := Row.up rm hb; replace hall := hall.trans (hb.mono hall.size); clear hb; rw [HN.out] at hown; have rn := TOwn.row hown; clear hown; refine kl H rfl fun a H => ?_
            refine wl_v _ (r_move (H.ev rfl)) ?_; refine kl H rfl fun a H => ?_
            refine wl_v _ (r_extract (v := vn) (H.ev rfl) rfl) ?_; refine kl H rfl fun a H => ?_
            refine wl_v _ (r_extract (v := .int .i64 0) (H.ev rfl) rfl) ?_; refine kl H rfl fun a H => ?_
            refine wl_v _ (r_assign (H.ev rfl)) ?_; refine kl H rfl fun a H => ?_
            refine wl_v _ (r_assign (H.ev rfl)) ?_; refine kl H rfl fun a H => ?_
            refine wpList_nil ?_
            refine c_next ?_
            refine wp_seq ?_
            refine wp_region_lit ?_
            refine wl_v _ (r_move (H.ev rfl)) ?_; refine kl H rfl fun a H => ?_
            refine wl_v _ (r_move (H.ev rfl)) ?_; refine kl H rfl fun a H => ?_
            refine wl_call _ _ _ (wat_any _ _ M peer rm (by omega)) (r_call2 cf19 (H.ev rfl) (H.ev rfl)) ?_; rintro e w9 ⟨⟨um, rfl, hown⟩, hb⟩; refine ⟨_, rfl, ?_⟩; replace h := Row.up h hb; replace rm := Row.up rm hb; replace rn := Row.up rn hb; replace hall := hall.trans (hb.mono hall.size); clear hb; rw [HWM.out] at hown; have qm := IOwn.row hown; clear hown; obtain ⟨Am, nm, rfl, -, -, qcm, qdm⟩ := qm; refine kl H rfl fun a H => ?_
            refine wl_v _ (r_assign (H.ev rfl)) ?_; refine kl H rfl fun a H => ?_
            refine wpList_nil ?_
            refine c_next ?_
            refine wp_seq ?_
            refine wp_region_lit ?_
            refine wl_v _ (r_move (H.ev rfl)) ?_; refine kl H rfl fun a H => ?_
            refine wl_v _ (r_move (H.ev rfl)) ?_; refine kl H rfl fun a H => ?_
            refine wl_call _ _ _ (wat_any _ _ N peer rn (by omega)) (r_call2 cf19 (H.ev rfl) (H.ev rfl)) ?_; rintro e w9 ⟨⟨un, rfl, hown⟩, hb⟩; refine ⟨_, rfl, ?_⟩; replace h := Row.up h hb; replace rm := Row.up rm hb; replace rn := Row.up rn hb; replace qdm := Holds.up qdm hb; replace hall := hall.trans (hb.mono hall.size); clear hb; rw [HWN.out] at hown; have qn := IOwn.row hown; clear hown; obtain ⟨An, nn, rfl, -, -, qcn, qdn⟩ := qn; refine kl H rfl fun a H => ?_
            refine wl_v _ (r_assign (H.ev rfl)) ?_; refine kl H rfl fun a H => ?_
            refine wpList_nil ?_
            refine c_next ?_
            refine wp_seq ?_
            refine wp_region_lit ?_
            refine wl_v _ (r_assign evc) ?_; refine kl H rfl fun a H => ?_
            refine wpList_nil ?_
            refine c_next ?_
            refine wp_seq ?_
            refine wp_seq ?_
            refine wp_region_lit ?_
            refine wl_v _ (r_assign evc) ?_; refine kl H rfl fun a H => ?_
            refine wpList_nil ?_
            refine c_next ?_
            refine wp_block ?_
            refine wp_loop (MeI w who Am nm An nn WM WN) (fun a _ => WM.length - (intOf (a.eval (.tmp 19))).toNat) ⟨0, false, H.pick [1, 9, 11, 15, 16, 17, 18, 19], by omega, by simp, qdm, qdn, hall⟩ ?_
            clear H hall qdm qdn
            rintro a w' ⟨k, hd, H, hk, hhd, qdm, qdn, hall⟩
            have H0 := H
            by_cases hlt : k < WM.length
            · skip
              obtain ⟨b, o, hA, hr⟩ := flat_some enc1_len qdm (by omega) hlt
              subst hA
              have hy : WM[k]? = some WM[k] := List.getElem?_eq_getElem hlt
              have HY := Lib.hid hy
              generalize WM[k] = y at *
              have ci1 := range_cell hr 0 (v := .int .i64 y) rfl
              simp only [Nat.mul_one, Nat.add_zero] at ci1
              clear hy hr
              cases hd
              · skip
                refine wp_seq ?_
                refine wp_seq ?_
                refine wp_region_lit ?_
                refine wl_v _ (r_move (H.ev rfl)) ?_; refine kl H rfl fun a H => ?_
                refine wl_v _ (r_move (H.ev rfl)) ?_; refine kl H rfl fun a H => ?_
                refine wl_v _ (r_len Try.underlying34 (H.ev rfl)) ?_; refine kl H rfl fun a H => ?_
                refine wl_v _ (r_lt Try.underlying3 (H.ev rfl) (H.ev rfl) (dec_t (by omega))) ?_; refine kl H rfl fun a H => ?_
                refine wpList_nil ?_
                refine c_next ?_
                refine c_cond_t H rfl ?_
                refine wp_skip ?_
                refine c_next ?_
                refine wp_seq ?_
                refine wp_block ?_
                refine wp_region_lit ?_
                refine wl_v _ (r_move (H.ev rfl)) ?_; refine kl H rfl fun a H => ?_
                refine wl_v _ (r_move (H.ev rfl)) ?_; refine kl H rfl fun a H => ?_
                refine op_unguard _ _ (kg_yes rfl H rfl rfl rfl) ?_; refine wl_v _ (r_move (H.ev rfl)) ?_; refine kl H rfl fun a H => ?_
                refine op_unguard _ _ (kg_yes rfl H rfl rfl rfl) ?_; refine wl_v _ (r_move (H.ev rfl)) ?_; refine kl H rfl fun a H => ?_
                refine op_unguard _ _ (kg_yes rfl H rfl rfl rfl) ?_; refine wl_v _ (r_idx (j := k) (q := o + k) Try.underlying34 s3 (H.ev rfl) (H.ev rfl) (by omega) (by omega)) ?_; refine kl H rfl fun a H => ?_
                refine op_unguard _ _ (kg_yes rfl H rfl rfl rfl) ?_; refine wl_v _ (r_ld Try.underlying3 rfl (H.ev rfl) (ci1)) ?_; refine kl H rfl fun a H => ?_
                refine op_unguard _ _ (kg_yes rfl H rfl rfl rfl) ?_; refine wl_v _ (r_move (H.ev rfl)) ?_; refine kl H rfl fun a H => ?_
                by_cases c4 : y = who
                · skip
                  refine op_unguard _ _ (kg_yes rfl H rfl rfl rfl) ?_; refine wl_v _ (r_eq Try.underlying3 (H.ev rfl) (H.ev rfl) (dec_t (c4))) ?_; refine kl H rfl fun a H => ?_
                  refine wl_v _ (r_pick_f (H.ev rfl) (H.ev rfl)) ?_; refine kl H rfl fun a H => ?_
                  refine wl_v _ (r_assign (H.ev rfl)) ?_; refine kl H rfl fun a H => ?_
                  refine wpList_nil ?_
                  refine n_block ?_
                  refine c_next ?_
                  refine wp_region_lit ?_
                  refine wl_v _ (r_move (H.ev rfl)) ?_; refine kl H rfl fun a H => ?_
                  refine wl_v _ (r_add (q := ((k + 1 : Nat) : Int)) Try.underlying3 (H.ev rfl) evc (by omega) (by omega)) ?_; refine kl H rfl fun a H => ?_
                  refine wl_v _ (r_assign (H.ev rfl)) ?_; refine kl H rfl fun a H => ?_
                  refine wpList_nil ?_
                  refine n_then ⟨⟨k + 1, _, H.pick [1, 9, 11, 15, 16, 17, 18, 19], by omega, had_here HY.out (by omega), qdm, qdn, hall⟩, ?_⟩
                  rw [H.ev (j := 19) rfl, H0.ev (j := 19) rfl]
                  simp only [intOf]
                  omega
                · skip
                  refine op_unguard _ _ (kg_yes rfl H rfl rfl rfl) ?_; refine wl_v _ (r_eq Try.underlying3 (H.ev rfl) (H.ev rfl) (dec_f (c4))) ?_; refine kl H rfl fun a H => ?_
                  refine wl_v _ (r_pick_f (H.ev rfl) (H.ev rfl)) ?_; refine kl H rfl fun a H => ?_
                  refine wl_v _ (r_assign (H.ev rfl)) ?_; refine kl H rfl fun a H => ?_
                  refine wpList_nil ?_
                  refine n_block ?_
                  refine c_next ?_
                  refine wp_region_lit ?_
                  refine wl_v _ (r_move (H.ev rfl)) ?_; refine kl H rfl fun a H => ?_
                  refine wl_v _ (r_add (q := ((k + 1 : Nat) : Int)) Try.underlying3 (H.ev rfl) evc (by omega) (by omega)) ?_; refine kl H rfl fun a H => ?_
                  refine wl_v _ (r_assign (H.ev rfl)) ?_; refine kl H rfl fun a H => ?_
                  refine wpList_nil ?_
                  refine n_then ⟨⟨k + 1, _, H.pick [1, 9, 11, 15, 16, 17, 18, 19], by omega, had_not hhd HY.out (by omega), qdm, qdn, hall⟩, ?_⟩
                  rw [H.ev (j := 19) rfl, H0.ev (j := 19) rfl]
                  simp only [intOf]
                  omega
              · skip
                refine wp_seq ?_
                refine wp_seq ?_
                refine wp_region_lit ?_
                refine wl_v _ (r_move (H.ev rfl)) ?_; refine kl H rfl fun a H => ?_
                refine wl_v _ (r_move (H.ev rfl)) ?_; refine kl H rfl fun a H => ?_
                refine wl_v _ (r_len Try.underlying34 (H.ev rfl)) ?_; refine kl H rfl fun a H => ?_
                refine wl_v _ (r_lt Try.underlying3 (H.ev rfl) (H.ev rfl) (dec_t (by omega))) ?_; refine kl H rfl fun a H => ?_
                refine wpList_nil ?_
                refine c_next ?_
                refine c_cond_t H rfl ?_
                refine wp_skip ?_
                refine c_next ?_
                refine wp_seq ?_
                refine wp_block ?_
                refine wp_region_lit ?_
                refine wl_v _ (r_move (H.ev rfl)) ?_; refine kl H rfl fun a H => ?_
                refine wl_v _ (r_move (H.ev rfl)) ?_; refine kl H rfl fun a H => ?_
                refine wl_s (kg_no rfl H rfl rfl rfl) ?_; refine kl H rfl fun a H => ?_
                refine wl_s (kg_no rfl H rfl rfl rfl) ?_; refine kl H rfl fun a H => ?_
                refine wl_s (kg_no rfl H rfl rfl rfl) ?_; refine kl H rfl fun a H => ?_
                refine wl_s (kg_no rfl H rfl rfl rfl) ?_; refine kl H rfl fun a H => ?_
                refine wl_s (kg_no rfl H rfl rfl rfl) ?_; refine kl H rfl fun a H => ?_
                refine wl_s (kg_no rfl H rfl rfl rfl) ?_; refine kl H rfl fun a H => ?_
                refine wl_v _ (r_pick_t (H.ev rfl) evc) ?_; refine kl H rfl fun a H => ?_
                refine wl_v _ (r_assign (H.ev rfl)) ?_; refine kl H rfl fun a H => ?_
                refine wpList_nil ?_
                refine n_block ?_
                refine c_next ?_
                refine wp_region_lit ?_
                refine wl_v _ (r_move (H.ev rfl)) ?_; refine kl H rfl fun a H => ?_
                refine wl_v _ (r_add (q := ((k + 1 : Nat) : Int)) Try.underlying3 (H.ev rfl) evc (by omega) (by omega)) ?_; refine kl H rfl fun a H => ?_
                refine wl_v _ (r_assign (H.ev rfl)) ?_; refine kl H rfl fun a H => ?_
                refine wpList_nil ?_
                refine n_then ⟨⟨k + 1, _, H.pick [1, 9, 11, 15, 16, 17, 18, 19], by omega, had_yes hhd HY.out, qdm, qdn, hall⟩, ?_⟩
                rw [H.ev (j := 19) rfl, H0.ev (j := 19) rfl]
                simp only [intOf]
                omega
            · skip
              obtain rfl : k = WM.length := by omega
              rw [List.take_length] at hhd
              obtain rfl : hd = true := hhd.2 (by rw [← HWM2.out]; simp)
              clear hhd
              refine wp_seq ?_
              refine wp_seq ?_
              refine wp_region_lit ?_
              refine wl_v _ (r_move (H.ev rfl)) ?_; refine kl H rfl fun a H => ?_
              refine wl_v _ (r_move (H.ev rfl)) ?_; refine kl H rfl fun a H => ?_
              refine wl_v _ (r_len Try.underlying34 (H.ev rfl)) ?_; refine kl H rfl fun a H => ?_
              refine wl_v _ (r_lt Try.underlying3 (H.ev rfl) (H.ev rfl) (dec_f (by omega))) ?_; refine kl H rfl fun a H => ?_
              refine wpList_nil ?_
              refine c_next ?_
              refine c_cond_f H rfl ?_
              refine wp_exit ?_
              refine e_then ?_
              refine e_then ?_
              refine e_here ?_
              refine c_next ?_
              refine wp_seq ?_
              refine wp_seq ?_
              refine wp_region_lit ?_
              refine wl_v _ (r_assign evc) ?_; refine kl H rfl fun a H => ?_
              refine wpList_nil ?_
              refine c_next ?_
              refine wp_block ?_
              refine wp_loop (MfI w who Am nm An nn WM WN) (fun a _ => WN.length - (intOf (a.eval (.tmp 20))).toNat) ⟨0, H.pick [1, 9, 11, 15, 16, 17, 18, 20], by omega, qdn, hall⟩ ?_
              clear H hall qdn
              rintro a w' ⟨k, H, hk, qdn, hall⟩
              have H0 := H
              by_cases hlt : k < WN.length
              · skip
                obtain ⟨b, o, hA, hr⟩ := flat_some enc1_len qdn (by omega) hlt
                subst hA
                have hy : WN[k]? = some WN[k] := List.getElem?_eq_getElem hlt
                have HY := Lib.hid hy
                generalize WN[k] = y at *
                have ci1 := range_cell hr 0 (v := .int .i64 y) rfl
                simp only [Nat.mul_one, Nat.add_zero] at ci1
                clear hy hr
                have hney : ¬ y = who := (fun e => by have hm := List.mem_of_getElem? HY.out; rw [← HWN2.out, e] at hm; rcases List.mem_append.1 hm with hm | hm; exact HNO.out.1 hm; exact HNO.out.2 hm)
                refine wp_seq ?_
                refine wp_seq ?_
                refine wp_region_lit ?_
                refine wl_v _ (r_move (H.ev rfl)) ?_; refine kl H rfl fun a H => ?_
                refine wl_v _ (r_move (H.ev rfl)) ?_; refine kl H rfl fun a H => ?_
                refine wl_v _ (r_len Try.underlying34 (H.ev rfl)) ?_; refine kl H rfl fun a H => ?_
                refine wl_v _ (r_lt Try.underlying3 (H.ev rfl) (H.ev rfl) (dec_t (by omega))) ?_; refine kl H rfl fun a H => ?_
                refine wpList_nil ?_
                refine c_next ?_
                refine c_cond_t H rfl ?_
                refine wp_skip ?_
                refine c_next ?_
                refine wp_seq ?_
                refine wp_block ?_
                refine wp_seq ?_
                refine wp_region_lit ?_
                refine wl_v _ (r_move (H.ev rfl)) ?_; refine kl H rfl fun a H => ?_
                refine wl_v _ (r_move (H.ev rfl)) ?_; refine kl H rfl fun a H => ?_
                refine wl_v _ (r_idx (j := k) (q := o + k) Try.underlying34 s3 (H.ev rfl) (H.ev rfl) (by omega) (by omega)) ?_; refine kl H rfl fun a H => ?_
                refine wl_v _ (r_ld Try.underlying3 rfl (H.ev rfl) (ci1)) ?_; refine kl H rfl fun a H => ?_
                refine wl_v _ (r_move (H.ev rfl)) ?_; refine kl H rfl fun a H => ?_
                refine wl_v _ (r_eq Try.underlying3 (H.ev rfl) (H.ev rfl) (dec_f (hney))) ?_; refine kl H rfl fun a H => ?_
                refine wpList_nil ?_
                refine c_next ?_
                refine c_cond_f H rfl ?_
                refine wp_skip ?_
                refine n_block ?_
                refine c_next ?_
                refine wp_region_lit ?_
                refine wl_v _ (r_move (H.ev rfl)) ?_; refine kl H rfl fun a H => ?_
                refine wl_v _ (r_add (q := ((k + 1 : Nat) : Int)) Try.underlying3 (H.ev rfl) evc (by omega) (by omega)) ?_; refine kl H rfl fun a H => ?_
                refine wl_v _ (r_assign (H.ev rfl)) ?_; refine kl H rfl fun a H => ?_
                refine wpList_nil ?_
                refine n_then ⟨⟨k + 1, H.pick [1, 9, 11, 15, 16, 17, 18, 20], by omega, qdn, hall⟩, ?_⟩
                rw [H.ev (j := 20) rfl, H0.ev (j := 20) rfl]
                simp only [intOf]
                omega
              · skip
                obtain rfl : k = WN.length := by omega
                refine wp_seq ?_
                refine wp_seq ?_
                refine wp_region_lit ?_
                refine wl_v _ (r_move (H.ev rfl)) ?_; refine kl H rfl fun a H => ?_
                refine wl_v _ (r_move (H.ev rfl)) ?_; refine kl H rfl fun a H => ?_
                refine wl_v _ (r_len Try.underlying34 (H.ev rfl)) ?_; refine kl H rfl fun a H => ?_
                refine wl_v _ (r_lt Try.underlying3 (H.ev rfl) (H.ev rfl) (dec_f (by omega))) ?_; refine kl H rfl fun a H => ?_
                refine wpList_nil ?_
                refine c_next ?_
                refine c_cond_f H rfl ?_
                refine wp_exit ?_
                refine e_then ?_
                refine e_then ?_
                refine e_here ?_
                refine c_next ?_
                refine wp_seq ?_
                refine wp_region_lit ?_
                refine wl_v _ (r_move (H.ev rfl)) ?_; refine kl H rfl fun a H => ?_
                refine wl_v _ (r_move (H.ev rfl)) ?_; refine kl H rfl fun a H => ?_
                refine op_unguard _ _ (kg_yes rfl H rfl rfl rfl) ?_; refine wl_v _ (r_move (H.ev rfl)) ?_; refine kl H rfl fun a H => ?_
                refine op_unguard _ _ (kg_yes rfl H rfl rfl rfl) ?_; refine wl_v _ (r_eq Try.underlying28 (H.ev rfl) evc (dec_t (by omega))) ?_; refine kl H rfl fun a H => ?_
                refine wl_v _ (r_pick_t (H.ev rfl) (H.ev rfl)) ?_; refine kl H rfl fun a H => ?_
                refine wl_v _ (r_move (H.ev rfl)) ?_; refine kl H rfl fun a H => ?_
                refine op_unguard _ _ (kg_yes rfl H rfl rfl rfl) ?_; refine wl_v _ (r_move (H.ev rfl)) ?_; refine kl H rfl fun a H => ?_
                refine op_unguard _ _ (kg_yes rfl H rfl rfl rfl) ?_; refine wl_v _ (r_eq Try.underlying28 (H.ev rfl) evc (dec_t (by omega))) ?_; refine kl H rfl fun a H => ?_
                refine wl_v _ (r_pick_t (H.ev rfl) (H.ev rfl)) ?_; refine kl H rfl fun a H => ?_
                refine wl_v _ (r_move (H.ev rfl)) ?_; refine kl H rfl fun a H => ?_
                refine op_unguard _ _ (kg_yes rfl H rfl rfl rfl) ?_; refine wl_v _ (r_move (H.ev rfl)) ?_; refine kl H rfl fun a H => ?_
                refine wl_v _ (r_pick_t (H.ev rfl) (H.ev rfl)) ?_; refine kl H rfl fun a H => ?_
                refine wl_v _ (r_move (H.ev rfl)) ?_; refine kl H rfl fun a H => ?_
                refine op_unguard _ _ (kg_yes rfl H rfl rfl rfl) ?_; refine wl_v _ (r_move (H.ev rfl)) ?_; refine kl H rfl fun a H => ?_
                refine op_unguard _ _ (kg_yes rfl H rfl rfl rfl) ?_; refine wl_v _ (r_len Try.underlying34 (H.ev rfl)) ?_; refine kl H rfl fun a H => ?_
                refine op_unguard _ _ (kg_yes rfl H rfl rfl rfl) ?_; refine wl_v _ (r_move (H.ev rfl)) ?_; refine kl H rfl fun a H => ?_
                refine op_unguard _ _ (kg_yes rfl H rfl rfl rfl) ?_; refine wl_v _ (r_len Try.underlying34 (H.ev rfl)) ?_; refine kl H rfl fun a H => ?_
                refine op_unguard _ _ (kg_yes rfl H rfl rfl rfl) ?_; refine wl_v _ (r_sub (q := ((WM.length : Nat) : Int) - 1) Try.underlying3 (H.ev rfl) evc (by omega) (by omega)) ?_; refine kl H rfl fun a H => ?_
                by_cases c5 : ((WN.length : Nat) : Int) = (((WM.length : Nat) : Int) - 1)
                · skip
                  refine op_unguard _ _ (kg_yes rfl H rfl rfl rfl) ?_; refine wl_v _ (r_eq Try.underlying3 (H.ev rfl) (H.ev rfl) (dec_t (c5))) ?_; refine kl H rfl fun a H => ?_
                  refine wl_v _ (r_pick_t (H.ev rfl) (H.ev rfl)) ?_; refine kl H rfl fun a H => ?_
                  refine wl_v _ (r_assign (H.ev rfl)) ?_; refine kl H rfl fun a H => ?_
                  refine wpList_nil ?_
                  refine c_next ?_
                  refine wp_ret ?_
                  exact k_ret1 H rfl rfl ⟨rfl, hall⟩
                · skip
                  refine op_unguard _ _ (kg_yes rfl H rfl rfl rfl) ?_; refine wl_v _ (r_eq Try.underlying3 (H.ev rfl) (H.ev rfl) (dec_f (c5))) ?_; refine kl H rfl fun a H => ?_
                  refine wl_v _ (r_pick_t (H.ev rfl) (H.ev rfl)) ?_; refine kl H rfl fun a H => ?_
                  refine wl_v _ (r_assign (H.ev rfl)) ?_; refine kl H rfl fun a H => ?_
                  refine wpList_nil ?_
                  refine c_next ?_
                  refine wp_ret ?_
                  exfalso; omega
        · skip
          refine op_unguard _ _ (kg_yes rfl H rfl rfl rfl) ?_; refine wl_v _ (r_ne Try.underlying3 (H.ev rfl) evc (dec_f (c2))) ?_; refine kl H rfl fun a H => ?_
          refine op_unguard _ _ (kg_yes rfl H rfl rfl rfl) ?_; refine wl_v _ (r_pick_t (H.ev rfl) (H.ev rfl)) ?_; refine kl H rfl fun a H => ?_
          refine op_unguard _ _ (kg_yes rfl H rfl rfl rfl) ?_; refine wl_v _ (r_move (H.ev rfl)) ?_; refine kl H rfl fun a H => ?_
          refine wl_s (kg_no rfl H rfl rfl rfl) ?_; refine kl H rfl fun a H => ?_
          refine wl_s (kg_no rfl H rfl rfl rfl) ?_; refine kl H rfl fun a H => ?_
          refine op_unguard _ _ (kg_yes rfl H rfl rfl rfl) ?_; refine wl_v _ (r_pick_f (H.ev rfl) evc) ?_; refine kl H rfl fun a H => ?_
          refine wl_v _ (r_pick_f (H.ev rfl) (H.ev rfl)) ?_; refine kl H rfl fun a H => ?_
          refine wpList_nil ?_
          refine c_next ?_
          refine c_cond_f H rfl ?_
          refine wp_skip ?_
          refine c_next ?_
          refine wp_seq ?_
          obtain rfl : s = 1 := by omega
          obtain ⟨U1, U2, U3⟩ := st_user HR.out (x := who) (z := peer) (by rw [HS.out]; simp)
          obtain ⟨M, hM⟩ : ∃ M, (doF L 3 peer who).1 = M := ⟨_, rfl⟩
          have hD := do_app HR.out U1 U2 U3 HS.out
          have HM := Lib.hid hM
          have HE : Hid ((doF L 3 peer who).2 = 0) := Lib.hid (by rw [hD])
          have hMp : M = putF L who peer 2 := by rw [← hM, hD]
          have hRM : RightL M := by rw [← hM]; exact right_do HR.out _ _ _
          have hMl := hRM.2.2.2
          have HRM := Lib.hid hRM
          have HMP := Lib.hid hMp
          obtain ⟨U, V, hWM, hno⟩ := meet_wat L who peer
          have HNO := Lib.hid hno
          have hWM1 : watF M peer = U ++ ([who] ++ V) := by rw [hMp]; exact (hWM 2).1 rfl
          obtain ⟨WM, hwm⟩ : ∃ WM, U ++ ([who] ++ V) = WM := ⟨_, rfl⟩
          have HWM : Hid (watF M peer = WM) := Lib.hid (by rw [hWM1, hwm])
          have HWM2 := Lib.hid hwm
          have hwml : WM.length ≤ 64 := by rw [← hwm, ← hWM1]; exact Nat.le_trans fm_le hMl
          obtain ⟨WN, hwn⟩ : ∃ WN, U ++ V = WN := ⟨_, rfl⟩
          have HWN2 := Lib.hid hwn
          have hwnl : WM.length = WN.length + 1 := by rw [← hwm, ← hwn]; simp; omega
          have HWP := Lib.hid hWM
          clear hM hD hMp hRM hWM hno hWM1 hwm hwn
          refine wp_region_lit ?_
          refine wl_v _ (r_move (H.ev rfl)) ?_; refine kl H rfl fun a H => ?_
          refine wl_v _ (r_move (H.ev rfl)) ?_; refine kl H rfl fun a H => ?_
          refine wl_v _ (r_move (H.ev rfl)) ?_; refine kl H rfl fun a H => ?_
          refine wl_call _ _ _ (do_any _ _ L 3 peer who h (by omega) HR.out) (r_call4 cf13 (H.ev rfl) evc (H.ev rfl) (H.ev rfl)) ?_; rintro e w9 ⟨⟨vm, rfl, hown⟩, hb⟩; refine ⟨_, rfl, ?_⟩; rw [HE.out]; replace h := Row.up h hb; replace hall := hall.trans (hb.mono hall.size); clear hb; rw [HM.out] at hown; have rm := TOwn.row hown; clear hown; refine kl H rfl fun a H => ?_
          refine wl_v _ (r_move (H.ev rfl)) ?_; refine kl H rfl fun a H => ?_
          refine wl_v _ (r_extract (v := vm) (H.ev rfl) rfl) ?_; refine kl H rfl fun a H => ?_
          refine wl_v _ (r_extract (v := .int .i64 0) (H.ev rfl) rfl) ?_; refine kl H rfl fun a H => ?_
          refine wl_v _ (r_assign (H.ev rfl)) ?_; refine kl H rfl fun a H => ?_
          refine wl_v _ (r_assign (H.ev rfl)) ?_; refine kl H rfl fun a H => ?_
          refine wpList_nil ?_
          refine c_next ?_
          refine wp_seq ?_
          refine wp_region_lit ?_
          refine wl_v _ (r_move (H.ev rfl)) ?_; refine kl H rfl fun a H => ?_
          refine wl_v _ (r_assign (H.ev rfl)) ?_; refine kl H rfl fun a H => ?_
          refine wpList_nil ?_
          refine c_next ?_
          refine wp_seq ?_
          refine wp_region_lit ?_
          refine wl_v _ (r_move (H.ev rfl)) ?_; refine kl H rfl fun a H => ?_
          refine wl_v _ (r_assign (H.ev rfl)) ?_; refine kl H rfl fun a H => ?_
          refine wpList_nil ?_
          refine c_next ?_
          refine wp_seq ?_
          refine wp_seq ?_
          refine wp_region_lit ?_
          refine wl_v _ (r_move (H.ev rfl)) ?_; refine kl H rfl fun a H => ?_
          refine wl_v _ (r_eq Try.underlying3 (H.ev rfl) evc (dec_f (by omega))) ?_; refine kl H rfl fun a H => ?_
          refine wpList_nil ?_
          refine c_next ?_
          refine c_cond_f H rfl ?_
          refine wp_skip ?_
          refine c_next ?_
          refine wp_seq ?_
          obtain rfl : en = 5 := by omega
          have hD2 := do_end HRM.out U1 U2 U3 (by rw [HMP.out]; exact st_same _ _ _ _)
          have hD2 := hD2.2.1
          obtain ⟨N, hN⟩ : ∃ N, (doF M 5 peer who).1 = N := ⟨_, rfl⟩
          have HN := Lib.hid hN
          have HE2 : Hid ((doF M 5 peer who).2 = 0) := Lib.hid (by rw [hD2])
          have hNp : N = putF L who peer 0 := by rw [← hN, hD2, HMP.out, put_put]
          have hRN : RightL N := by rw [← hN]; exact right_do HRM.out _ _ _
          have hNl := hRN.2.2.2
          have HWN : Hid (watF N peer = WN) := Lib.hid (by rw [hNp, (HWP.out 0).2 (by decide)]; exact HWN2.out)
          clear hD2 hN hNp hRN
          refine wp_region_lit ?_
          refine wl_v _ (r_move (H.ev rfl)) ?_; refine kl H rfl fun a H => ?_
          refine wl_v _ (r_move (H.ev rfl)) ?_; refine kl H rfl fun a H => ?_
          refine wl_v _ (r_move (H.ev rfl)) ?_; refine kl H rfl fun a H => ?_
          refine wl_v _ (r_move (H.ev rfl)) ?_; refine kl H rfl fun a H => ?_
          refine wl_call _ _ _ (do_any _ _ M 5 peer who rm (by omega) HRM.out) (r_call4 cf13 (H.ev rfl) (H.ev rfl) (H.ev rfl) (H.ev rfl)) ?_; rintro e w9 ⟨⟨vn, rfl, hown⟩, hb⟩; refine ⟨_, rfl, ?_⟩; rw [HE2.out]; replace h := Row.up h hb; replace rm := Row.up rm hb; replace hall := hall.trans (hb.mono hall.size); clear hb; rw [HN.out] at hown; have rn := TOwn.row hown; clear hown; refine kl H rfl fun a H => ?_
          refine wl_v _ (r_move (H.ev rfl)) ?_; refine kl H rfl fun a H => ?_
          refine wl_v _ (r_extract (v := vn) (H.ev rfl) rfl) ?_; refine kl H rfl fun a H => ?_
          refine wl_v _ (r_extract (v := .int .i64 0) (H.ev rfl) rfl) ?_; refine kl H rfl fun a H => ?_
          refine wl_v _ (r_assign (H.ev rfl)) ?_; refine kl H rfl fun a H => ?_
          refine wl_v _ (r_assign (H.ev rfl)) ?_; refine kl H rfl fun a H => ?_
          refine wpList_nil ?_
          refine c_next ?_
          refine wp_seq ?_
          refine wp_region_lit ?_
          refine wl_v _ (r_move (H.ev rfl)) ?_; refine kl H rfl fun a H => ?_
          refine wl_v _ (r_move (H.ev rfl)) ?_; refine kl H rfl fun a H => ?_
          refine wl_call _ _ _ (wat_any _ _ M peer rm (by omega)) (r_call2 cf19 (H.ev rfl) (H.ev rfl)) ?_; rintro e w9 ⟨⟨um, rfl, hown⟩, hb⟩; refine ⟨_, rfl, ?_⟩; replace h := Row.up h hb; replace rm := Row.up rm hb; replace rn := Row.up rn hb; replace hall := hall.trans (hb.mono hall.size); clear hb; rw [HWM.out] at hown; have qm := IOwn.row hown; clear hown; obtain ⟨Am, nm, rfl, -, -, qcm, qdm⟩ := qm; refine kl H rfl fun a H => ?_
          refine wl_v _ (r_assign (H.ev rfl)) ?_; refine kl H rfl fun a H => ?_
          refine wpList_nil ?_
          refine c_next ?_
          refine wp_seq ?_
          refine wp_region_lit ?_
          refine wl_v _ (r_move (H.ev rfl)) ?_; refine kl H rfl fun a H => ?_
          refine wl_v _ (r_move (H.ev rfl)) ?_; refine kl H rfl fun a H => ?_
          refine wl_call _ _ _ (wat_any _ _ N peer rn (by omega)) (r_call2 cf19 (H.ev rfl) (H.ev rfl)) ?_; rintro e w9 ⟨⟨un, rfl, hown⟩, hb⟩; refine ⟨_, rfl, ?_⟩; replace h := Row.up h hb; replace rm := Row.up rm hb; replace rn := Row.up rn hb; replace qdm := Holds.up qdm hb; replace hall := hall.trans (hb.mono hall.size); clear hb; rw [HWN.out] at hown; have qn := IOwn.row hown; clear hown; obtain ⟨An, nn, rfl, -, -, qcn, qdn⟩ := qn; refine kl H rfl fun a H => ?_
          refine wl_v _ (r_assign (H.ev rfl)) ?_; refine kl H rfl fun a H => ?_
          refine wpList_nil ?_
          refine c_next ?_
          refine wp_seq ?_
          refine wp_region_lit ?_
          refine wl_v _ (r_assign evc) ?_; refine kl H rfl fun a H => ?_
          refine wpList_nil ?_
          refine c_next ?_
          refine wp_seq ?_
          refine wp_seq ?_
          refine wp_region_lit ?_
          refine wl_v _ (r_assign evc) ?_; refine kl H rfl fun a H => ?_
          refine wpList_nil ?_
          refine c_next ?_
          refine wp_block ?_
          refine wp_loop (MeI w who Am nm An nn WM WN) (fun a _ => WM.length - (intOf (a.eval (.tmp 19))).toNat) ⟨0, false, H.pick [1, 9, 11, 15, 16, 17, 18, 19], by omega, by simp, qdm, qdn, hall⟩ ?_
          clear H hall qdm qdn
          rintro a w' ⟨k, hd, H, hk, hhd, qdm, qdn, hall⟩
          have H0 := H
          by_cases hlt : k < WM.length
          · skip
            obtain ⟨b, o, hA, hr⟩ := flat_some enc1_len qdm (by omega) hlt
            subst hA
            have hy : WM[k]? = some WM[k] := List.getElem?_eq_getElem hlt
            have HY := Lib.hid hy
            generalize WM[k] = y at *
            have ci1 := range_cell hr 0 (v := .int .i64 y) rfl
            simp only [Nat.mul_one, Nat.add_zero] at ci1
            clear hy hr
            cases hd
            · skip
              refine wp_seq ?_
              refine wp_seq ?_
              refine wp_region_lit ?_
              refine wl_v _ (r_move (H.ev rfl)) ?_; refine kl H rfl fun a H => ?_
              refine wl_v _ (r_move (H.ev rfl)) ?_; refine kl H rfl fun a H => ?_
              refine wl_v _ (r_len Try.underlying34 (H.ev rfl)) ?_; refine kl H rfl fun a H => ?_
              refine wl_v _ (r_lt Try.underlying3 (H.ev rfl) (H.ev rfl) (dec_t (by omega))) ?_; refine kl H rfl fun a H => ?_
              refine wpList_nil ?_
              refine c_next ?_
              refine c_cond_t H rfl ?_
              refine wp_skip ?_
              refine c_next ?_
              refine wp_seq ?_
              refine wp_block ?_
              refine wp_region_lit ?_
              refine wl_v _ (r_move (H.ev rfl)) ?_; refine kl H rfl fun a H => ?_
              refine wl_v _ (r_move (H.ev rfl)) ?_; refine kl H rfl fun a H => ?_
              refine op_unguard _ _ (kg_yes rfl H rfl rfl rfl) ?_; refine wl_v _ (r_move (H.ev rfl)) ?_; refine kl H rfl fun a H => ?_
              refine op_unguard _ _ (kg_yes rfl H rfl rfl rfl) ?_; refine wl_v _ (r_move (H.ev rfl)) ?_; refine kl H rfl fun a H => ?_
              refine op_unguard _ _ (kg_yes rfl H rfl rfl rfl) ?_; refine wl_v _ (r_idx (j := k) (q := o + k) Try.underlying34 s3 (H.ev rfl) (H.ev rfl) (by omega) (by omega)) ?_; refine kl H rfl fun a H => ?_
              refine op_unguard _ _ (kg_yes rfl H rfl rfl rfl) ?_; refine wl_v _ (r_ld Try.underlying3 rfl (H.ev rfl) (ci1)) ?_; refine kl H rfl fun a H => ?_
              refine op_unguard _ _ (kg_yes rfl H rfl rfl rfl) ?_; refine wl_v _ (r_move (H.ev rfl)) ?_; refine kl H rfl fun a H => ?_
              by_cases c6 : y = who
              · skip
                refine op_unguard _ _ (kg_yes rfl H rfl rfl rfl) ?_; refine wl_v _ (r_eq Try.underlying3 (H.ev rfl) (H.ev rfl) (dec_t (c6))) ?_; refine kl H rfl fun a H => ?_
                refine wl_v _ (r_pick_f (H.ev rfl) (H.ev rfl)) ?_; refine kl H rfl fun a H => ?_
                refine wl_v _ (r_assign (H.ev rfl)) ?_; refine kl H rfl fun a H => ?_
                refine wpList_nil ?_
                refine n_block ?_
                refine c_next ?_
                refine wp_region_lit ?_
                refine wl_v _ (r_move (H.ev rfl)) ?_; refine kl H rfl fun a H => ?_
                refine wl_v _ (r_add (q := ((k + 1 : Nat) : Int)) Try.underlying3 (H.ev rfl) evc (by omega) (by omega)) ?_; refine kl H rfl fun a H => ?_
                refine wl_v _ (r_assign (H.ev rfl)) ?_; refine kl H rfl fun a H => ?_
                refine wpList_nil ?_
                refine n_then ⟨⟨k + 1, _, H.pick [1, 9, 11, 15, 16, 17, 18, 19], by omega, had_here HY.out (by omega), qdm, qdn, hall⟩, ?_⟩
                rw [H.ev (j := 19) rfl, H0.ev (j := 19) rfl]
                simp only [intOf]
                omega
              · skip
                refine op_unguard _ _ (kg_yes rfl H rfl rfl rfl) ?_; refine wl_v _ (r_eq Try.underlying3 (H.ev rfl) (H.ev rfl) (dec_f (c6))) ?_; refine kl H rfl fun a H => ?_
                refine wl_v _ (r_pick_f (H.ev rfl) (H.ev rfl)) ?_; refine kl H rfl fun a H => ?_
                refine wl_v _ (r_assign (H.ev rfl)) ?_; refine kl H rfl fun a H => ?_
                refine wpList_nil ?_
                refine n_block ?_
                refine c_next ?_
                refine wp_region_lit ?_
                refine wl_v _ (r_move (H.ev rfl)) ?_; refine kl H rfl fun a H => ?_
                refine wl_v _ (r_add (q := ((k + 1 : Nat) : Int)) Try.underlying3 (H.ev rfl) evc (by omega) (by omega)) ?_; refine kl H rfl fun a H => ?_
                refine wl_v _ (r_assign (H.ev rfl)) ?_; refine kl H rfl fun a H => ?_
                refine wpList_nil ?_
                refine n_then ⟨⟨k + 1, _, H.pick [1, 9, 11, 15, 16, 17, 18, 19], by omega, had_not hhd HY.out (by omega), qdm, qdn, hall⟩, ?_⟩
                rw [H.ev (j := 19) rfl, H0.ev (j := 19) rfl]
                simp only [intOf]
                omega
            · skip
              refine wp_seq ?_
              refine wp_seq ?_
              refine wp_region_lit ?_
              refine wl_v _ (r_move (H.ev rfl)) ?_; refine kl H rfl fun a H => ?_
              refine wl_v _ (r_move (H.ev rfl)) ?_; refine kl H rfl fun a H => ?_
              refine wl_v _ (r_len Try.underlying34 (H.ev rfl)) ?_; refine kl H rfl fun a H => ?_
              refine wl_v _ (r_lt Try.underlying3 (H.ev rfl) (H.ev rfl) (dec_t (by omega))) ?_; refine kl H rfl fun a H => ?_
              refine wpList_nil ?_
              refine c_next ?_
              refine c_cond_t H rfl ?_
              refine wp_skip ?_
              refine c_next ?_
              refine wp_seq ?_
              refine wp_block ?_
              refine wp_region_lit ?_
              refine wl_v _ (r_move (H.ev rfl)) ?_; refine kl H rfl fun a H => ?_
              refine wl_v _ (r_move (H.ev rfl)) ?_; refine kl H rfl fun a H => ?_
              refine wl_s (kg_no rfl H rfl rfl rfl) ?_; refine kl H rfl fun a H => ?_
              refine wl_s (kg_no rfl H rfl rfl rfl) ?_; refine kl H rfl fun a H => ?_
              refine wl_s (kg_no rfl H rfl rfl rfl) ?_; refine kl H rfl fun a H => ?_
              refine wl_s (kg_no rfl H rfl rfl rfl) ?_; refine kl H rfl fun a H => ?_
              refine wl_s (kg_no rfl H rfl rfl rfl) ?_; refine kl H rfl fun a H => ?_
              refine wl_s (kg_no rfl H rfl rfl rfl) ?_; refine kl H rfl fun a H => ?_
              refine wl_v _ (r_pick_t (H.ev rfl) evc) ?_; refine kl H rfl fun a H => ?_
              refine wl_v _ (r_assign (H.ev rfl)) ?_; refine kl H rfl fun a H => ?_
              refine wpList_nil ?_
              refine n_block ?_
              refine c_next ?_
              refine wp_region_lit ?_
              refine wl_v _ (r_move (H.ev rfl)) ?_; refine kl H rfl fun a H => ?_
              refine wl_v _ (r_add (q := ((k + 1 : Nat) : Int)) Try.underlying3 (H.ev rfl) evc (by omega) (by omega)) ?_; refine kl H rfl fun a H => ?_
              refine wl_v _ (r_assign (H.ev rfl)) ?_; refine kl H rfl fun a H => ?_
              refine wpList_nil ?_
              refine n_then ⟨⟨k + 1, _, H.pick [1, 9, 11, 15, 16, 17, 18, 19], by omega, had_yes hhd HY.out, qdm, qdn, hall⟩, ?_⟩
              rw [H.ev (j := 19) rfl, H0.ev (j := 19) rfl]
              simp only [intOf]
              omega
          · skip
            obtain rfl : k = WM.length := by omega
            rw [List.take_length] at hhd
            obtain rfl : hd = true := hhd.2 (by rw [← HWM2.out]; simp)
            clear hhd
            refine wp_seq ?_
            refine wp_seq ?_
            refine wp_region_lit ?_
            refine wl_v _ (r_move (H.ev rfl)) ?_; refine kl H rfl fun a H => ?_
            refine wl_v _ (r_move (H.ev rfl)) ?_; refine kl H rfl fun a H => ?_
            refine wl_v _ (r_len Try.underlying34 (H.ev rfl)) ?_; refine kl H rfl fun a H => ?_
            refine wl_v _ (r_lt Try.underlying3 (H.ev rfl) (H.ev rfl) (dec_f (by omega))) ?_; refine kl H rfl fun a H => ?_
            refine wpList_nil ?_
            refine c_next ?_
            refine c_cond_f H rfl ?_
            refine wp_exit ?_
            refine e_then ?_
            refine e_then ?_
            refine e_here ?_
            refine c_next ?_
            refine wp_seq ?_
            refine wp_seq ?_
            refine wp_region_lit ?_
            refine wl_v _ (r_assign evc) ?_; refine kl H rfl fun a H => ?_
            refine wpList_nil ?_
            refine c_next ?_
            refine wp_block ?_
            refine wp_loop (MfI w who Am nm An nn WM WN) (fun a _ => WN.length - (intOf (a.eval (.tmp 20))).toNat) ⟨0, H.pick [1, 9, 11, 15, 16, 17, 18, 20], by omega, qdn, hall⟩ ?_
            clear H hall qdn
            rintro a w' ⟨k, H, hk, qdn, hall⟩
            have H0 := H
            by_cases hlt : k < WN.length
            · skip
              obtain ⟨b, o, hA, hr⟩ := flat_some enc1_len qdn (by omega) hlt
              subst hA
              have hy : WN[k]? = some WN[k] := List.getElem?_eq_getElem hlt
              have HY := Lib.hid hy
              generalize WN[k] = y at *
              have ci1 := range_cell hr 0 (v := .int .i64 y) rfl
              simp only [Nat.mul_one, Nat.add_zero] at ci1
              clear hy hr
              have hney : ¬ y = who := (fun e => by have hm := List.mem_of_getElem? HY.out; rw [← HWN2.out, e] at hm; rcases List.mem_append.1 hm with hm | hm; exact HNO.out.1 hm; exact HNO.out.2 hm)
              refine wp_seq ?_
              refine wp_seq ?_
              refine wp_region_lit ?_
              refine wl_v _ (r_move (H.ev rfl)) ?_; refine kl H rfl fun a H => ?_
              refine wl_v _ (r_move (H.ev rfl)) ?_; refine kl H rfl fun a H => ?_
              refine wl_v _ (r_len Try.underlying34 (H.ev rfl)) ?_; refine kl H rfl fun a H => ?_
              refine wl_v _ (r_lt Try.underlying3 (H.ev rfl) (H.ev rfl) (dec_t (by omega))) ?_; refine kl H rfl fun a H => ?_
              refine wpList_nil ?_
              refine c_next ?_
              refine c_cond_t H rfl ?_
              refine wp_skip ?_
              refine c_next ?_
              refine wp_seq ?_
              refine wp_block ?_
              refine wp_seq ?_
              refine wp_region_lit ?_
              refine wl_v _ (r_move (H.ev rfl)) ?_; refine kl H rfl fun a H => ?_
              refine wl_v _ (r_move (H.ev rfl)) ?_; refine kl H rfl fun a H => ?_
              refine wl_v _ (r_idx (j := k) (q := o + k) Try.underlying34 s3 (H.ev rfl) (H.ev rfl) (by omega) (by omega)) ?_; refine kl H rfl fun a H => ?_
              refine wl_v _ (r_ld Try.underlying3 rfl (H.ev rfl) (ci1)) ?_; refine kl H rfl fun a H => ?_
              refine wl_v _ (r_move (H.ev rfl)) ?_; refine kl H rfl fun a H => ?_
              refine wl_v _ (r_eq Try.underlying3 (H.ev rfl) (H.ev rfl) (dec_f (hney))) ?_; refine kl H rfl fun a H => ?_
              refine wpList_nil ?_
              refine c_next ?_
              refine c_cond_f H rfl ?_
              refine wp_skip ?_
              refine n_block ?_
              refine c_next ?_
              refine wp_region_lit ?_
              refine wl_v _ (r_move (H.ev rfl)) ?_; refine kl H rfl fun a H => ?_
              refine wl_v _ (r_add (q := ((k + 1 : Nat) : Int)) Try.underlying3 (H.ev rfl) evc (by omega) (by omega)) ?_; refine kl H rfl fun a H => ?_
              refine wl_v _ (r_assign (H.ev rfl)) ?_; refine kl H rfl fun a H => ?_
              refine wpList_nil ?_
              refine n_then ⟨⟨k + 1, H.pick [1, 9, 11, 15, 16, 17, 18, 20], by omega, qdn, hall⟩, ?_⟩
              rw [H.ev (j := 20) rfl, H0.ev (j := 20) rfl]
              simp only [intOf]
              omega
            · skip
              obtain rfl : k = WN.length := by omega
              refine wp_seq ?_
              refine wp_seq ?_
              refine wp_region_lit ?_
              refine wl_v _ (r_move (H.ev rfl)) ?_; refine kl H rfl fun a H => ?_
              refine wl_v _ (r_move (H.ev rfl)) ?_; refine kl H rfl fun a H => ?_
              refine wl_v _ (r_len Try.underlying34 (H.ev rfl)) ?_; refine kl H rfl fun a H => ?_
              refine wl_v _ (r_lt Try.underlying3 (H.ev rfl) (H.ev rfl) (dec_f (by omega))) ?_; refine kl H rfl fun a H => ?_
              refine wpList_nil ?_
              refine c_next ?_
              refine c_cond_f H rfl ?_
              refine wp_exit ?_
              refine e_then ?_
              refine e_then ?_
              refine e_here ?_
              refine c_next ?_
              refine wp_seq ?_
              refine wp_region_lit ?_
              refine wl_v _ (r_move (H.ev rfl)) ?_; refine kl H rfl fun a H => ?_
              refine wl_v _ (r_move (H.ev rfl)) ?_; refine kl H rfl fun a H => ?_
              refine op_unguard _ _ (kg_yes rfl H rfl rfl rfl) ?_; refine wl_v _ (r_move (H.ev rfl)) ?_; refine kl H rfl fun a H => ?_
              refine op_unguard _ _ (kg_yes rfl H rfl rfl rfl) ?_; refine wl_v _ (r_eq Try.underlying28 (H.ev rfl) evc (dec_t (by omega))) ?_; refine kl H rfl fun a H => ?_
              refine wl_v _ (r_pick_t (H.ev rfl) (H.ev rfl)) ?_; refine kl H rfl fun a H => ?_
              refine wl_v _ (r_move (H.ev rfl)) ?_; refine kl H rfl fun a H => ?_
              refine op_unguard _ _ (kg_yes rfl H rfl rfl rfl) ?_; refine wl_v _ (r_move (H.ev rfl)) ?_; refine kl H rfl fun a H => ?_
              refine op_unguard _ _ (kg_yes rfl H rfl rfl rfl) ?_; refine wl_v _ (r_eq Try.underlying28 (H.ev rfl) evc (dec_t (by omega))) ?_; refine kl H rfl fun a H => ?_
              refine wl_v _ (r_pick_t (H.ev rfl) (H.ev rfl)) ?_; refine kl H rfl fun a H => ?_
              refine wl_v _ (r_move (H.ev rfl)) ?_; refine kl H rfl fun a H => ?_
              refine op_unguard _ _ (kg_yes rfl H rfl rfl rfl) ?_; refine wl_v _ (r_move (H.ev rfl)) ?_; refine kl H rfl fun a H => ?_
              refine wl_v _ (r_pick_t (H.ev rfl) (H.ev rfl)) ?_; refine kl H rfl fun a H => ?_
              refine wl_v _ (r_move (H.ev rfl)) ?_; refine kl H rfl fun a H => ?_
              refine op_unguard _ _ (kg_yes rfl H rfl rfl rfl) ?_; refine wl_v _ (r_move (H.ev rfl)) ?_; refine kl H rfl fun a H => ?_
              refine op_unguard _ _ (kg_yes rfl H rfl rfl rfl) ?_; refine wl_v _ (r_len Try.underlying34 (H.ev rfl)) ?_; refine kl H rfl fun a H => ?_
              refine op_unguard _ _ (kg_yes rfl H rfl rfl rfl) ?_; refine wl_v _ (r_move (H.ev rfl)) ?_; refine kl H rfl fun a H => ?_
              refine op_unguard _ _ (kg_yes rfl H rfl rfl rfl) ?_; refine wl_v _ (r_len Try.underlying34 (H.ev rfl)) ?_; refine kl H rfl fun a H => ?_
              refine op_unguard _ _ (kg_yes rfl H rfl rfl rfl) ?_; refine wl_v _ (r_sub (q := ((WM.length : Nat) : Int) - 1) Try.underlying3 (H.ev rfl) evc (by omega) (by omega)) ?_; refine kl H rfl fun a H => ?_
              by_cases c7 : ((WN.length : Nat) : Int) = (((WM.length : Nat) : Int) - 1)
              · skip
                refine op_unguard _ _ (kg_yes rfl H rfl rfl rfl) ?_; refine wl_v _ (r_eq Try.underlying3 (H.ev rfl) (H.ev rfl) (dec_t (c7))) ?_; refine kl H rfl fun a H => ?_
                refine wl_v _ (r_pick_t (H.ev rfl) (H.ev rfl)) ?_; refine kl H rfl fun a H => ?_
                refine wl_v _ (r_assign (H.ev rfl)) ?_; refine kl H rfl fun a H => ?_
                refine wpList_nil ?_
                refine c_next ?_
                refine wp_ret ?_
                exact k_ret1 H rfl rfl ⟨rfl, hall⟩
              · skip
                refine op_unguard _ _ (kg_yes rfl H rfl rfl rfl) ?_; refine wl_v _ (r_eq Try.underlying3 (H.ev rfl) (H.ev rfl) (dec_f (c7))) ?_; refine kl H rfl fun a H => ?_
                refine wl_v _ (r_pick_t (H.ev rfl) (H.ev rfl)) ?_; refine kl H rfl fun a H => ?_
                refine wl_v _ (r_assign (H.ev rfl)) ?_; refine kl H rfl fun a H => ?_
                refine wpList_nil ?_
                refine c_next ?_
                refine wp_ret ?_
                exfalso; omega
      · skip
        refine op_unguard _ _ (kg_yes rfl H rfl rfl rfl) ?_; refine wl_v _ (r_ne Try.underlying3 (H.ev rfl) evc (dec_f (c1))) ?_; refine kl H rfl fun a H => ?_
        refine op_unguard _ _ (kg_yes rfl H rfl rfl rfl) ?_; refine wl_v _ (r_move (H.ev rfl)) ?_; refine kl H rfl fun a H => ?_
        refine wl_s (kg_no rfl H rfl rfl rfl) ?_; refine kl H rfl fun a H => ?_
        refine wl_s (kg_no rfl H rfl rfl rfl) ?_; refine kl H rfl fun a H => ?_
        refine op_unguard _ _ (kg_yes rfl H rfl rfl rfl) ?_; refine wl_v _ (r_pick_f (H.ev rfl) evc) ?_; refine kl H rfl fun a H => ?_
        refine op_unguard _ _ (kg_yes rfl H rfl rfl rfl) ?_; refine wl_v _ (r_move (H.ev rfl)) ?_; refine kl H rfl fun a H => ?_
        refine wl_s (kg_no rfl H rfl rfl rfl) ?_; refine kl H rfl fun a H => ?_
        refine wl_s (kg_no rfl H rfl rfl rfl) ?_; refine kl H rfl fun a H => ?_
        refine op_unguard _ _ (kg_yes rfl H rfl rfl rfl) ?_; refine wl_v _ (r_pick_f (H.ev rfl) evc) ?_; refine kl H rfl fun a H => ?_
        refine wl_v _ (r_pick_f (H.ev rfl) (H.ev rfl)) ?_; refine kl H rfl fun a H => ?_
        refine wpList_nil ?_
        refine c_next ?_
        refine c_cond_f H rfl ?_
        refine wp_skip ?_
        refine c_next ?_
        refine wp_seq ?_
        obtain rfl : s = 1 := by omega
        obtain ⟨U1, U2, U3⟩ := st_user HR.out (x := who) (z := peer) (by rw [HS.out]; simp)
        obtain ⟨M, hM⟩ : ∃ M, (doF L 3 peer who).1 = M := ⟨_, rfl⟩
        have hD := do_app HR.out U1 U2 U3 HS.out
        have HM := Lib.hid hM
        have HE : Hid ((doF L 3 peer who).2 = 0) := Lib.hid (by rw [hD])
        have hMp : M = putF L who peer 2 := by rw [← hM, hD]
        have hRM : RightL M := by rw [← hM]; exact right_do HR.out _ _ _
        have hMl := hRM.2.2.2
        have HRM := Lib.hid hRM
        have HMP := Lib.hid hMp
        obtain ⟨U, V, hWM, hno⟩ := meet_wat L who peer
        have HNO := Lib.hid hno
        have hWM1 : watF M peer = U ++ ([who] ++ V) := by rw [hMp]; exact (hWM 2).1 rfl
        obtain ⟨WM, hwm⟩ : ∃ WM, U ++ ([who] ++ V) = WM := ⟨_, rfl⟩
        have HWM : Hid (watF M peer = WM) := Lib.hid (by rw [hWM1, hwm])
        have HWM2 := Lib.hid hwm
        have hwml : WM.length ≤ 64 := by rw [← hwm, ← hWM1]; exact Nat.le_trans fm_le hMl
        obtain ⟨WN, hwn⟩ : ∃ WN, U ++ V = WN := ⟨_, rfl⟩
        have HWN2 := Lib.hid hwn
        have hwnl : WM.length = WN.length + 1 := by rw [← hwm, ← hwn]; simp; omega
        have HWP := Lib.hid hWM
        clear hM hD hMp hRM hWM hno hWM1 hwm hwn
        refine wp_region_lit ?_
        refine wl_v _ (r_move (H.ev rfl)) ?_; refine kl H rfl fun a H => ?_
        refine wl_v _ (r_move (H.ev rfl)) ?_; refine kl H rfl fun a H => ?_
        refine wl_v _ (r_move (H.ev rfl)) ?_; refine kl H rfl fun a H => ?_
        refine wl_call _ _ _ (do_any _ _ L 3 peer who h (by omega) HR.out) (r_call4 cf13 (H.ev rfl) evc (H.ev rfl) (H.ev rfl)) ?_; rintro e w9 ⟨⟨vm, rfl, hown⟩, hb⟩; refine ⟨_, rfl, ?_⟩; rw [HE.out]; replace h := Row.up h hb; replace hall := hall.trans (hb.mono hall.size); clear hb; rw [HM.out] at hown; have rm := TOwn.row hown; clear hown; refine kl H rfl fun a H => ?_
        refine wl_v _ (r_move (H.ev rfl)) ?_; refine kl H rfl fun a H => ?_
        refine wl_v _ (r_extract (v := vm) (H.ev rfl) rfl) ?_; refine kl H rfl fun a H => ?_
        refine wl_v _ (r_extract (v := .int .i64 0) (H.ev rfl) rfl) ?_; refine kl H rfl fun a H => ?_
        refine wl_v _ (r_assign (H.ev rfl)) ?_; refine kl H rfl fun a H => ?_
        refine wl_v _ (r_assign (H.ev rfl)) ?_; refine kl H rfl fun a H => ?_
        refine wpList_nil ?_
        refine c_next ?_
        refine wp_seq ?_
        refine wp_region_lit ?_
        refine wl_v _ (r_move (H.ev rfl)) ?_; refine kl H rfl fun a H => ?_
        refine wl_v _ (r_assign (H.ev rfl)) ?_; refine kl H rfl fun a H => ?_
        refine wpList_nil ?_
        refine c_next ?_
        refine wp_seq ?_
        refine wp_region_lit ?_
        refine wl_v _ (r_move (H.ev rfl)) ?_; refine kl H rfl fun a H => ?_
        refine wl_v _ (r_assign (H.ev rfl)) ?_; refine kl H rfl fun a H => ?_
        refine wpList_nil ?_
        refine c_next ?_
        refine wp_seq ?_
        refine wp_seq ?_
        refine wp_region_lit ?_
        refine wl_v _ (r_move (H.ev rfl)) ?_; refine kl H rfl fun a H => ?_
        refine wl_v _ (r_eq Try.underlying3 (H.ev rfl) evc (dec_t (by omega))) ?_; refine kl H rfl fun a H => ?_
        refine wpList_nil ?_
        refine c_next ?_
        refine c_cond_t H rfl ?_
        refine wp_seq ?_
        refine wp_region_lit ?_
        refine wl_v _ (r_move (H.ev rfl)) ?_; refine kl H rfl fun a H => ?_
        refine wl_v _ (r_assign (H.ev rfl)) ?_; refine kl H rfl fun a H => ?_
        refine wpList_nil ?_
        refine c_next ?_
        refine wp_region_lit ?_
        refine wl_v _ (r_move (H.ev rfl)) ?_; refine kl H rfl fun a H => ?_
        refine wl_v _ (r_assign (H.ev rfl)) ?_; refine kl H rfl fun a H => ?_
        refine wpList_nil ?_
        refine c_next ?_
        refine wp_seq ?_
        obtain rfl : en = 2 := by omega
        have hD2 := do_end HRM.out U1 U2 U3 (by rw [HMP.out]; exact st_same _ _ _ _)
        have hD2 := hD2.1
        obtain ⟨N, hN⟩ : ∃ N, (doF M 2 who peer).1 = N := ⟨_, rfl⟩
        have HN := Lib.hid hN
        have HE2 : Hid ((doF M 2 who peer).2 = 0) := Lib.hid (by rw [hD2])
        have hNp : N = putF L who peer 0 := by rw [← hN, hD2, HMP.out, put_put]
        have hRN : RightL N := by rw [← hN]; exact right_do HRM.out _ _ _
        have hNl := hRN.2.2.2
        have HWN : Hid (watF N peer = WN) := Lib.hid (by rw [hNp, (HWP.out 0).2 (by decide)]; exact HWN2.out)
        clear hD2 hN hNp hRN
        refine wp_region_lit ?_
        refine wl_v _ (r_move (H.ev rfl)) ?_; refine kl H rfl fun a H => ?_
        refine wl_v _ (r_move (H.ev rfl)) ?_; refine kl H rfl fun a H => ?_
        refine wl_v _ (r_move (H.ev rfl)) ?_; refine kl H rfl fun a H => ?_
        refine wl_v _ (r_move (H.ev rfl)) ?_; refine kl H rfl fun a H => ?_
        refine wl_call _ _ _ (do_any _ _ M 2 who peer rm (by omega) HRM.out) (r_call4 cf13 (H.ev rfl) (H.ev rfl) (H.ev rfl) (H.ev rfl)) ?_; rintro e w9 ⟨⟨vn, rfl, hown⟩, hb⟩; refine ⟨_, rfl, ?_⟩; rw [HE2.out]; replace h := Row.up h hb; replace rm := Row.up rm hb; replace hall := hall.trans (hb.mono hall.size); clear hb; rw [HN.out] at hown; have rn := TOwn.row hown; clear hown; refine kl H rfl fun a H => ?_
        refine wl_v _ (r_move (H.ev rfl)) ?_; refine kl H rfl fun a H => ?_
        refine wl_v _ (r_extract (v := vn) (H.ev rfl) rfl) ?_; refine kl H rfl fun a H => ?_
        refine wl_v _ (r_extract (v := .int .i64 0) (H.ev rfl) rfl) ?_; refine kl H rfl fun a H => ?_
        refine wl_v _ (r_assign (H.ev rfl)) ?_; refine kl H rfl fun a H => ?_
        refine wl_v _ (r_assign (H.ev rfl)) ?_; refine kl H rfl fun a H => ?_
        refine wpList_nil ?_
        refine c_next ?_
        refine wp_seq ?_
        refine wp_region_lit ?_
        refine wl_v _ (r_move (H.ev rfl)) ?_; refine kl H rfl fun a H => ?_
        refine wl_v _ (r_move (H.ev rfl)) ?_; refine kl H rfl fun a H => ?_
        refine wl_call _ _ _ (wat_any _ _ M peer rm (by omega)) (r_call2 cf19 (H.ev rfl) (H.ev rfl)) ?_; rintro e w9 ⟨⟨um, rfl, hown⟩, hb⟩; refine ⟨_, rfl, ?_⟩; replace h := Row.up h hb; replace rm := Row.up rm hb; replace rn := Row.up rn hb; replace hall := hall.trans (hb.mono hall.size); clear hb; rw [HWM.out] at hown; have qm := IOwn.row hown; clear hown; obtain ⟨Am, nm, rfl, -, -, qcm, qdm⟩ := qm; refine kl H rfl fun a H => ?_
        refine wl_v _ (r_assign (H.ev rfl)) ?_; refine kl H rfl fun a H => ?_
        refine wpList_nil ?_
        refine c_next ?_
        refine wp_seq ?_
        refine wp_region_lit ?_
        refine wl_v _ (r_move (H.ev rfl)) ?_; refine kl H rfl fun a H => ?_
        refine wl_v _ (r_move (H.ev rfl)) ?_; refine kl H rfl fun a H => ?_
        refine wl_call _ _ _ (wat_any _ _ N peer rn (by omega)) (r_call2 cf19 (H.ev rfl) (H.ev rfl)) ?_; rintro e w9 ⟨⟨un, rfl, hown⟩, hb⟩; refine ⟨_, rfl, ?_⟩; replace h := Row.up h hb; replace rm := Row.up rm hb; replace rn := Row.up rn hb; replace qdm := Holds.up qdm hb; replace hall := hall.trans (hb.mono hall.size); clear hb; rw [HWN.out] at hown; have qn := IOwn.row hown; clear hown; obtain ⟨An, nn, rfl, -, -, qcn, qdn⟩ := qn; refine kl H rfl fun a H => ?_
        refine wl_v _ (r_assign (H.ev rfl)) ?_; refine kl H rfl fun a H => ?_
        refine wpList_nil ?_
        refine c_next ?_
        refine wp_seq ?_
        refine wp_region_lit ?_
        refine wl_v _ (r_assign evc) ?_; refine kl H rfl fun a H => ?_
        refine wpList_nil ?_
        refine c_next ?_
        refine wp_seq ?_
        refine wp_seq ?_
        refine wp_region_lit ?_
        refine wl_v _ (r_assign evc) ?_; refine kl H rfl fun a H => ?_
        refine wpList_nil ?_
        refine c_next ?_
        refine wp_block ?_
        refine wp_loop (MeI w who Am nm An nn WM WN) (fun a _ => WM.length - (intOf (a.eval (.tmp 19))).toNat) ⟨0, false, H.pick [1, 9, 11, 15, 16, 17, 18, 19], by omega, by simp, qdm, qdn, hall⟩ ?_
        clear H hall qdm qdn
        rintro a w' ⟨k, hd, H, hk, hhd, qdm, qdn, hall⟩
        have H0 := H
        by_cases hlt : k < WM.length
        · skip
          obtain ⟨b, o, hA, hr⟩ := flat_some enc1_len qdm (by omega) hlt
          subst hA
          have hy : WM[k]? = some WM[k] := List.getElem?_eq_getElem hlt
          have HY := Lib.hid hy
          generalize WM[k] = y at *
          have ci1 := range_cell hr 0 (v := .int .i64 y) rfl
          simp only [Nat.mul_one, Nat.add_zero] at ci1
          clear hy hr
          cases hd
          · skip
            refine wp_seq ?_
            refine wp_seq ?_
            refine wp_region_lit ?_
            refine wl_v _ (r_move (H.ev rfl)) ?_; refine kl H rfl fun a H => ?_
            refine wl_v _ (r_move (H.ev rfl)) ?_; refine kl H rfl fun a H => ?_
            refine wl_v _ (r_len Try.underlying34 (H.ev rfl)) ?_; refine kl H rfl fun a H => ?_
            refine wl_v _ (r_lt Try.underlying3 (H.ev rfl) (H.ev rfl) (dec_t (by omega))) ?_; refine kl H rfl fun a H => ?_
            refine wpList_nil ?_
            refine c_next ?_
            refine c_cond_t H rfl ?_
            refine wp_skip ?_
            refine c_next ?_
            refine wp_seq ?_
            refine wp_block ?_
            refine wp_region_lit ?_
            refine wl_v _ (r_move (H.ev rfl)) ?_; refine kl H rfl fun a H => ?_
            refine wl_v _ (r_move (H.ev rfl)) ?_; refine kl H rfl fun a H => ?_
            refine op_unguard _ _ (kg_yes rfl H rfl rfl rfl) ?_; refine wl_v _ (r_move (H.ev rfl)) ?_; refine kl H rfl fun a H => ?_
            refine op_unguard _ _ (kg_yes rfl H rfl rfl rfl) ?_; refine wl_v _ (r_move (H.ev rfl)) ?_; refine kl H rfl fun a H => ?_
            refine op_unguard _ _ (kg_yes rfl H rfl rfl rfl) ?_; refine wl_v _ (r_idx (j := k) (q := o + k) Try.underlying34 s3 (H.ev rfl) (H.ev rfl) (by omega) (by omega)) ?_; refine kl H rfl fun a H => ?_
            refine op_unguard _ _ (kg_yes rfl H rfl rfl rfl) ?_; refine wl_v _ (r_ld Try.underlying3 rfl (H.ev rfl) (ci1)) ?_; refine kl H rfl fun a H => ?_
            refine op_unguard _ _ (kg_yes rfl H rfl rfl rfl) ?_; refine wl_v _ (r_move (H.ev rfl)) ?_; refine kl H rfl fun a H => ?_
            by_cases c8 : y = who
            · skip
              refine op_unguard _ _ (kg_yes rfl H rfl rfl rfl) ?_; refine wl_v _ (r_eq Try.underlying3 (H.ev rfl) (H.ev rfl) (dec_t (c8))) ?_; refine kl H rfl fun a H => ?_
              refine wl_v _ (r_pick_f (H.ev rfl) (H.ev rfl)) ?_; refine kl H rfl fun a H => ?_
              refine wl_v _ (r_assign (H.ev rfl)) ?_; refine kl H rfl fun a H => ?_
              refine wpList_nil ?_
              refine n_block ?_
              refine c_next ?_
              refine wp_region_lit ?_
              refine wl_v _ (r_move (H.ev rfl)) ?_; refine kl H rfl fun a H => ?_
              refine wl_v _ (r_add (q := ((k + 1 : Nat) : Int)) Try.underlying3 (H.ev rfl) evc (by omega) (by omega)) ?_; refine kl H rfl fun a H => ?_
              refine wl_v _ (r_assign (H.ev rfl)) ?_; refine kl H rfl fun a H => ?_
              refine wpList_nil ?_
              refine n_then ⟨⟨k + 1, _, H.pick [1, 9, 11, 15, 16, 17, 18, 19], by omega, had_here HY.out (by omega), qdm, qdn, hall⟩, ?_⟩
              rw [H.ev (j := 19) rfl, H0.ev (j := 19) rfl]
              simp only [intOf]
              omega
            · skip
              refine op_unguard _ _ (kg_yes rfl H rfl rfl rfl) ?_; refine wl_v _ (r_eq Try.underlying3 (H.ev rfl) (H.ev rfl) (dec_f (c8))) ?_; refine kl H rfl fun a H => ?_
              refine wl_v _ (r_pick_f (H.ev rfl) (H.ev rfl)) ?_; refine kl H rfl fun a H => ?_
              refine wl_v _ (r_assign (H.ev rfl)) ?_; refine kl H rfl fun a H => ?_
              refine wpList_nil ?_
              refine n_block ?_
              refine c_next ?_
              refine wp_region_lit ?_
              refine wl_v _ (r_move (H.ev rfl)) ?_; refine kl H rfl fun a H => ?_
              refine wl_v _ (r_add (q := ((k + 1 : Nat) : Int)) Try.underlying3 (H.ev rfl) evc (by omega) (by omega)) ?_; refine kl H rfl fun a H => ?_
              refine wl_v _ (r_assign (H.ev rfl)) ?_; refine kl H rfl fun a H => ?_
              refine wpList_nil ?_
              refine n_then ⟨⟨k + 1, _, H.pick [1, 9, 11, 15, 16, 17, 18, 19], by omega, had_not hhd HY.out (by omega), qdm, qdn, hall⟩, ?_⟩
              rw [H.ev (j := 19) rfl, H0.ev (j := 19) rfl]
              simp only [intOf]
              omega
          · skip
            refine wp_seq ?_
            refine wp_seq ?_
            refine wp_region_lit ?_
            refine wl_v _ (r_move (H.ev rfl)) ?_; refine kl H rfl fun a H => ?_
            refine wl_v _ (r_move (H.ev rfl)) ?_; refine kl H rfl fun a H => ?_
            refine wl_v _ (r_len Try.underlying34 (H.ev rfl)) ?_; refine kl H rfl fun a H => ?_
            refine wl_v _ (r_lt Try.underlying3 (H.ev rfl) (H.ev rfl) (dec_t (by omega))) ?_; refine kl H rfl fun a H => ?_
            refine wpList_nil ?_
            refine c_next ?_
            refine c_cond_t H rfl ?_
            refine wp_skip ?_
            refine c_next ?_
            refine wp_seq ?_
            refine wp_block ?_
            refine wp_region_lit ?_
            refine wl_v _ (r_move (H.ev rfl)) ?_; refine kl H rfl fun a H => ?_
            refine wl_v _ (r_move (H.ev rfl)) ?_; refine kl H rfl fun a H => ?_
            refine wl_s (kg_no rfl H rfl rfl rfl) ?_; refine kl H rfl fun a H => ?_
            refine wl_s (kg_no rfl H rfl rfl rfl) ?_; refine kl H rfl fun a H => ?_
            refine wl_s (kg_no rfl H rfl rfl rfl) ?_; refine kl H rfl fun a H => ?_
            refine wl_s (kg_no rfl H rfl rfl rfl) ?_; refine kl H rfl fun a H => ?_
            refine wl_s (kg_no rfl H rfl rfl rfl) ?_; refine kl H rfl fun a H => ?_
            refine wl_s (kg_no rfl H rfl rfl rfl) ?_; refine kl H rfl fun a H => ?_
            refine wl_v _ (r_pick_t (H.ev rfl) evc) ?_; refine kl H rfl fun a H => ?_
            refine wl_v _ (r_assign (H.ev rfl)) ?_; refine kl H rfl fun a H => ?_
            refine wpList_nil ?_
            refine n_block ?_
            refine c_next ?_
            refine wp_region_lit ?_
            refine wl_v _ (r_move (H.ev rfl)) ?_; refine kl H rfl fun a H => ?_
            refine wl_v _ (r_add (q := ((k + 1 : Nat) : Int)) Try.underlying3 (H.ev rfl) evc (by omega) (by omega)) ?_; refine kl H rfl fun a H => ?_
            refine wl_v _ (r_assign (H.ev rfl)) ?_; refine kl H rfl fun a H => ?_
            refine wpList_nil ?_
            refine n_then ⟨⟨k + 1, _, H.pick [1, 9, 11, 15, 16, 17, 18, 19], by omega, had_yes hhd HY.out, qdm, qdn, hall⟩, ?_⟩
            rw [H.ev (j := 19) rfl, H0.ev (j := 19) rfl]
            simp only [intOf]
            omega
        · skip
          obtain rfl : k = WM.length := by omega
          rw [List.take_length] at hhd
          obtain rfl : hd = true := hhd.2 (by rw [← HWM2.out]; simp)
          clear hhd
          refine wp_seq ?_
          refine wp_seq ?_
          refine wp_region_lit ?_
          refine wl_v _ (r_move (H.ev rfl)) ?_; refine kl H rfl fun a H => ?_
          refine wl_v _ (r_move (H.ev rfl)) ?_; refine kl H rfl fun a H => ?_
          refine wl_v _ (r_len Try.underlying34 (H.ev rfl)) ?_; refine kl H rfl fun a H => ?_
          refine wl_v _ (r_lt Try.underlying3 (H.ev rfl) (H.ev rfl) (dec_f (by omega))) ?_; refine kl H rfl fun a H => ?_
          refine wpList_nil ?_
          refine c_next ?_
          refine c_cond_f H rfl ?_
          refine wp_exit ?_
          refine e_then ?_
          refine e_then ?_
          refine e_here ?_
          refine c_next ?_
          refine wp_seq ?_
          refine wp_seq ?_
          refine wp_region_lit ?_
          refine wl_v _ (r_assign evc) ?_; refine kl H rfl fun a H => ?_
          refine wpList_nil ?_
          refine c_next ?_
          refine wp_block ?_
          refine wp_loop (MfI w who Am nm An nn WM WN) (fun a _ => WN.length - (intOf (a.eval (.tmp 20))).toNat) ⟨0, H.pick [1, 9, 11, 15, 16, 17, 18, 20], by omega, qdn, hall⟩ ?_
          clear H hall qdn
          rintro a w' ⟨k, H, hk, qdn, hall⟩
          have H0 := H
          by_cases hlt : k < WN.length
          · skip
            obtain ⟨b, o, hA, hr⟩ := flat_some enc1_len qdn (by omega) hlt
            subst hA
            have hy : WN[k]? = some WN[k] := List.getElem?_eq_getElem hlt
            have HY := Lib.hid hy
            generalize WN[k] = y at *
            have ci1 := range_cell hr 0 (v := .int .i64 y) rfl
            simp only [Nat.mul_one, Nat.add_zero] at ci1
            clear hy hr
            have hney : ¬ y = who := (fun e => by have hm := List.mem_of_getElem? HY.out; rw [← HWN2.out, e] at hm; rcases List.mem_append.1 hm with hm | hm; exact HNO.out.1 hm; exact HNO.out.2 hm)
            refine wp_seq ?_
            refine wp_seq ?_
            refine wp_region_lit ?_
            refine wl_v _ (r_move (H.ev rfl)) ?_; refine kl H rfl fun a H => ?_
            refine wl_v _ (r_move (H.ev rfl)) ?_; refine kl H rfl fun a H => ?_
            refine wl_v _ (r_len Try.underlying34 (H.ev rfl)) ?_; refine kl H rfl fun a H => ?_
            refine wl_v _ (r_lt Try.underlying3 (H.ev rfl) (H.ev rfl) (dec_t (by omega))) ?_; refine kl H rfl fun a H => ?_
            refine wpList_nil ?_
            refine c_next ?_
            refine c_cond_t H rfl ?_
            refine wp_skip ?_
            refine c_next ?_
            refine wp_seq ?_
            refine wp_block ?_
            refine wp_seq ?_
            refine wp_region_lit ?_
            refine wl_v _ (r_move (H.ev rfl)) ?_; refine kl H rfl fun a H => ?_
            refine wl_v _ (r_move (H.ev rfl)) ?_; refine kl H rfl fun a H => ?_
            refine wl_v _ (r_idx (j := k) (q := o + k) Try.underlying34 s3 (H.ev rfl) (H.ev rfl) (by omega) (by omega)) ?_; refine kl H rfl fun a H => ?_
            refine wl_v _ (r_ld Try.underlying3 rfl (H.ev rfl) (ci1)) ?_; refine kl H rfl fun a H => ?_
            refine wl_v _ (r_move (H.ev rfl)) ?_; refine kl H rfl fun a H => ?_
            refine wl_v _ (r_eq Try.underlying3 (H.ev rfl) (H.ev rfl) (dec_f (hney))) ?_; refine kl H rfl fun a H => ?_
            refine wpList_nil ?_
            refine c_next ?_
            refine c_cond_f H rfl ?_
            refine wp_skip ?_
            refine n_block ?_
            refine c_next ?_
            refine wp_region_lit ?_
            refine wl_v _ (r_move (H.ev rfl)) ?_; refine kl H rfl fun a H => ?_
            refine wl_v _ (r_add (q := ((k + 1 : Nat) : Int)) Try.underlying3 (H.ev rfl) evc (by omega) (by omega)) ?_; refine kl H rfl fun a H => ?_
            refine wl_v _ (r_assign (H.ev rfl)) ?_; refine kl H rfl fun a H => ?_
            refine wpList_nil ?_
            refine n_then ⟨⟨k + 1, H.pick [1, 9, 11, 15, 16, 17, 18, 20], by omega, qdn, hall⟩, ?_⟩
            rw [H.ev (j := 20) rfl, H0.ev (j := 20) rfl]
            simp only [intOf]
            omega
          · skip
            obtain rfl : k = WN.length := by omega
            refine wp_seq ?_
            refine wp_seq ?_
            refine wp_region_lit ?_
            refine wl_v _ (r_move (H.ev rfl)) ?_; refine kl H rfl fun a H => ?_
            refine wl_v _ (r_move (H.ev rfl)) ?_; refine kl H rfl fun a H => ?_
            refine wl_v _ (r_len Try.underlying34 (H.ev rfl)) ?_; refine kl H rfl fun a H => ?_
            refine wl_v _ (r_lt Try.underlying3 (H.ev rfl) (H.ev rfl) (dec_f (by omega))) ?_; refine kl H rfl fun a H => ?_
            refine wpList_nil ?_
            refine c_next ?_
            refine c_cond_f H rfl ?_
            refine wp_exit ?_
            refine e_then ?_
            refine e_then ?_
            refine e_here ?_
            refine c_next ?_
            refine wp_seq ?_
            refine wp_region_lit ?_
            refine wl_v _ (r_move (H.ev rfl)) ?_; refine kl H rfl fun a H => ?_
            refine wl_v _ (r_move (H.ev rfl)) ?_; refine kl H rfl fun a H => ?_
            refine op_unguard _ _ (kg_yes rfl H rfl rfl rfl) ?_; refine wl_v _ (r_move (H.ev rfl)) ?_; refine kl H rfl fun a H => ?_
            refine op_unguard _ _ (kg_yes rfl H rfl rfl rfl) ?_; refine wl_v _ (r_eq Try.underlying28 (H.ev rfl) evc (dec_t (by omega))) ?_; refine kl H rfl fun a H => ?_
            refine wl_v _ (r_pick_t (H.ev rfl) (H.ev rfl)) ?_; refine kl H rfl fun a H => ?_
            refine wl_v _ (r_move (H.ev rfl)) ?_; refine kl H rfl fun a H => ?_
            refine op_unguard _ _ (kg_yes rfl H rfl rfl rfl) ?_; refine wl_v _ (r_move (H.ev rfl)) ?_; refine kl H rfl fun a H => ?_
            refine op_unguard _ _ (kg_yes rfl H rfl rfl rfl) ?_; refine wl_v _ (r_eq Try.underlying28 (H.ev rfl) evc (dec_t (by omega))) ?_; refine kl H rfl fun a H => ?_
            refine wl_v _ (r_pick_t (H.ev rfl) (H.ev rfl)) ?_; refine kl H rfl fun a H => ?_
            refine wl_v _ (r_move (H.ev rfl)) ?_; refine kl H rfl fun a H => ?_
            refine op_unguard _ _ (kg_yes rfl H rfl rfl rfl) ?_; refine wl_v _ (r_move (H.ev rfl)) ?_; refine kl H rfl fun a H => ?_
            refine wl_v _ (r_pick_t (H.ev rfl) (H.ev rfl)) ?_; refine kl H rfl fun a H => ?_
            refine wl_v _ (r_move (H.ev rfl)) ?_; refine kl H rfl fun a H => ?_
            refine op_unguard _ _ (kg_yes rfl H rfl rfl rfl) ?_; refine wl_v _ (r_move (H.ev rfl)) ?_; refine kl H rfl fun a H => ?_
            refine op_unguard _ _ (kg_yes rfl H rfl rfl rfl) ?_; refine wl_v _ (r_len Try.underlying34 (H.ev rfl)) ?_; refine kl H rfl fun a H => ?_
            refine op_unguard _ _ (kg_yes rfl H rfl rfl rfl) ?_; refine wl_v _ (r_move (H.ev rfl)) ?_; refine kl H rfl fun a H => ?_
            refine op_unguard _ _ (kg_yes rfl H rfl rfl rfl) ?_; refine wl_v _ (r_len Try.underlying34 (H.ev rfl)) ?_; refine kl H rfl fun a H => ?_
            refine op_unguard _ _ (kg_yes rfl H rfl rfl rfl) ?_; refine wl_v _ (r_sub (q := ((WM.length : Nat) : Int) - 1) Try.underlying3 (H.ev rfl) evc (by omega) (by omega)) ?_; refine kl H rfl fun a H => ?_
            by_cases c9 : ((WN.length : Nat) : Int) = (((WM.length : Nat) : Int) - 1)
            · skip
              refine op_unguard _ _ (kg_yes rfl H rfl rfl rfl) ?_; refine wl_v _ (r_eq Try.underlying3 (H.ev rfl) (H.ev rfl) (dec_t (c9))) ?_; refine kl H rfl fun a H => ?_
              refine wl_v _ (r_pick_t (H.ev rfl) (H.ev rfl)) ?_; refine kl H rfl fun a H => ?_
              refine wl_v _ (r_assign (H.ev rfl)) ?_; refine kl H rfl fun a H => ?_
              refine wpList_nil ?_
              refine c_next ?_
              refine wp_ret ?_
              exact k_ret1 H rfl rfl ⟨rfl, hall⟩
            · skip
              refine op_unguard _ _ (kg_yes rfl H rfl rfl rfl) ?_; refine wl_v _ (r_eq Try.underlying3 (H.ev rfl) (H.ev rfl) (dec_f (c9))) ?_; refine kl H rfl fun a H => ?_
              refine wl_v _ (r_pick_t (H.ev rfl) (H.ev rfl)) ?_; refine kl H rfl fun a H => ?_
              refine wl_v _ (r_assign (H.ev rfl)) ?_; refine kl H rfl fun a H => ?_
              refine wpList_nil ?_
              refine c_next ?_
              refine wp_ret ?_
              exfalso; omega
theorem meets_all (w : World) (A : Option Addr) (n c : Nat) (B : List Int) (who peer en : Int) (hB : B.length = n * 3) (hw : WF B) (hnc : n ≤ c) (hc : c ≤ maxLen) (hh : Holds w A (B.map (Value.int .i64))) (hz : A = none → c = 0) (hn : n ≤ 9223372036854775807) :
    Calls Try.prog 7 #[.slice A n c, .int .i64 who, .int .i64 peer, .int .i64 en] w fun e w' => e = .returned (.bool true) ∧ Below w.heap.size w w' := by
  obtain ⟨L, h, rfl, hwf⟩ := row_in hB hw hnc hc hh hz
  exact meets_walk w _ L who peer en h hn hwf
theorem rosterMeets_it0 : intTy Try.prog 3 37 = true := by kernel_rfl
theorem rosterMeets_c0 : Try.prog.cellsOf 37 = 3 := by kernel_rfl
set_option maxRecDepth 100000 in
theorem rosterMeets_lifted (os : Os) (started : os.Started) (H : Type) (enc : TypeId × Value → H) :
    ReturnsInHanded {} Try.checked os 7 .any (Rows.rosterMeetsSpec.pre6 enc Try.prog Try.f7 Rows.rosterMeetsRow.domain false) (Rows.rosterMeetsSpec.post enc Try.prog Try.f7 false true false false) := by
  refine returnsInHanded_of_change (C := Try.checked) own started (by kernel_rfl) Try.func7
    (ChangeSpec.witness6 (enc := enc) (C := Try.checked) false ⟨#[], #[.slice none 0 0, .int .i64 0, .int .i64 0, .int .i64 0], []⟩ 8 (by kernel_rfl) (by kernel_rfl) (by kernel_rfl) (by kernel_rfl)) ?_
  intro W base args ds gs before hval0 hW hcnd _
  have hval : ∀ (j : Nat) t v, Try.f7.params[j]? = some t → args[j]? = some v → Value.okWide Try.prog W .any base t v := hval0
  have hW' := hW
  obtain ⟨p, q, hA0, hV, rfl, hfz, hnd⟩ := hW
  have hA : DataW.TrodAll enc Try.prog W 0 (fun _ => true) true Try.f7.params.toList args.toList ds p := hA0
  rw [Try.params7] at hA hval
  obtain ⟨v0, vs0, d0, ds0, p0, q0, hargs, rfl, rfl, h0, r0⟩ := trodAll_cons hA
  obtain ⟨v1, vs1, d1, ds1, p1, q1, rfl, rfl, rfl, h1, r1⟩ := trodAll_cons r0
  obtain ⟨v2, vs2, d2, ds2, p2, q2, rfl, rfl, rfl, h2, r2⟩ := trodAll_cons r1
  obtain ⟨v3, vs3, d3, ds3, p3, q3, rfl, rfl, rfl, h3, r3⟩ := trodAll_cons r2
  obtain ⟨rfl, rfl, rfl⟩ := trodAll_nil r3
  obtain rfl : args = #[v0, v1, v2, v3] := by cases args; simp_all
  obtain ⟨rfl, rfl⟩ := trodVars_none hV
  have k0 := h0
  have lt0 : ∀ x ∈ p0, x.block < W.heap.size := by obtain ⟨m, hm⟩ := k0; exact DataW.trod_lt m _ _ _ hm
  obtain ⟨A0, n0, c0, L0, rfl, hn0, hw0, hnc0, hcm0, hh0, hz0⟩ := open_slice_ints 3 3 Try.underlying22 rosterMeets_it0 rosterMeets_c0 (by omega) (hval 0 22 v0 rfl rfl) h0
  have hb0 : n0 ≤ 9223372036854775807 := by unfold maxLen at hcm0; omega
  obtain ⟨u1, rfl, rfl, rfl, wu1⟩ := open_int Try.underlying3 (hval 1 3 v1 rfl rfl) h1
  obtain ⟨u2, rfl, rfl, rfl, wu2⟩ := open_int Try.underlying3 (hval 2 3 v2 rfl rfl) h2
  obtain ⟨u3, rfl, rfl, rfl, wu3⟩ := open_int Try.underlying3 (hval 3 3 v3 rfl rfl) h3
  clear hA0 hval0
  refine (meets_all W A0 n0 c0 L0 u1 u2 u3 hn0 hw0 hnc0 hcm0 hh0 hz0 (by omega)).mono fun e W' ⟨he, bel⟩ => ?_
  subst he
  exact ⟨_, rfl, _, _, _, [], _, [], hW', trodAll_mk1 (shut_bool Try.underlying4 _), (trodAll_cons_mk (Below.trod laidOut (by kernel_rfl) (of_decide_eq_true (by kernel_rfl)) k0 bel lt0) (trodAll_cons_mk (shut_int Try.underlying3 wu1) (trodAll_cons_mk (shut_int Try.underlying3 wu2) (trodAll_cons_mk (shut_int Try.underlying3 wu3) trodAll_mk0)))), rfl, bel.frame _, fun h => by cases h⟩

theorem rosterMeets_holds : Rows.RosterMeetsSaid :=
  OpenClaim.holds_of_wide 7 Try.f7 rfl rfl rfl rfl rfl rfl rfl ⟨rfl, rfl, rfl, rfl, rfl⟩ rfl rfl rfl rfl rfl (by kernel_rfl) Try.func7 (by kernel_rfl)
    (of_decide_eq_true (by kernel_rfl)) (by unfold Func.isWrapper; first | (rw [if_pos (by decide +kernel)]; kernel_rfl) | (rw [if_neg (by decide +kernel)]; exact ⟨rfl, rfl⟩))
    (fun os started H enc _ => rosterMeets_lifted os started H enc)
#print axioms rosterMeets_holds
end Go.Proofs.Ytfehhenbdiageaa
