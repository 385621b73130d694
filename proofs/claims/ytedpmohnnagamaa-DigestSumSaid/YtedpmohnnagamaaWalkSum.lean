/- DigestSum's walk: for every key and every bytes it returns true. -/
import Derived.Test.YtedpmohnnagamaaPureHash
import Derived.Test.YtedpmohnnagamaaFree
namespace Go.Proofs.Ytedpmohnnagamaa.WalkSum
open Go.RowKit Go.Proofs.Ytedpmohnnagamaa.Print Go.Proofs.Ytedpmohnnagamaa.Free Go.Proofs.Ytedpmohnnagamaa.PureDig Go.Proofs.Ytedpmohnnagamaa.PureHash Go.Proofs.YtedpmohnnagamaaW.PrintWords Go.Proofs.YtedpmohnnagamaaW.PrintLast Go.Proofs.YtedpmohnnagamaaW.PrintMore
attribute [local go_sem] max2_int min2_int max_two min_two max_three min_three max_four min_four
set_option linter.unusedVariables false
set_option linter.unusedSimpArgs false
def su.T8 : Bool × List (List Nat × List Nat) := (true, [([], []), ([], []), ([], []), ([], []), ([2, 3], [2, 3]), ([0, 1, 4], [0, 1, 4]), ([], []), ([], []), ([], []), ([], []), ([8, 9], [8, 9]), ([6, 7, 10, 5], [6, 7, 10]), ([5, 11], [5, 11])])
def su.B8 : List Nat := [0, 0, 0, 0, 12, 31, 0, 0, 0, 0, 768, 2047, 4095]
theorem su.tab8 : rtab .any (opsOf Try.f3 8) = su.T8 := by kernel_rfl
theorem su.bits8 : waitsOk su.T8.2 su.B8 = true := by kernel_rfl
set_option maxHeartbeats 8000000 in
set_option maxRecDepth 100000 in
theorem walk (k0 k1 : Int) (A0 : Option Addr) (c0 : Nat) (l : List Int) (w : World) (w0 : (Lit.int .u64 k0).wf = true) (w1 : (Lit.int .u64 k1).wf = true) (hr : Kd.C (Kd.int .u8) w A0 l.length l) (hc : l.length ≤ c0) (hw : l.length ≤ maxLen ∧ ∀ y ∈ l, (Lit.int .u8 y).wf = true) :
    Calls Try.prog 3 #[.int .u64 k0, .int .u64 k1, .slice A0 l.length c0] w fun e w' => e = .returned (.bool true) ∧ Below w.heap.size w w' := by
  obtain ⟨ka, hka0⟩ := awake_ev.rounds
  have hka := Aside0.mk hka0
  have hlm : l.length ≤ 9223372036854775807 := by have := hw.1; simpa [maxLen] using this
  clear hka0 hw w0 w1
  by_cases hl : 600 < l.length
  · obtain ⟨xs, hxs⟩ : ∃ xs, xs = l.take 600 := ⟨_, rfl⟩
    have hxl : xs.length = 600 := by rw [hxs, List.length_take]; omega
    have RX0 : Aside0 (xs.length ≤ c0 ∧ Kd.C (Kd.int .u8) w A0 xs.length xs) := ⟨by omega, by rw [hxs]; exact Kd.C_take hr (by omega)⟩
    have HXL := Aside0.mk hxl
    have hxle : xs.length ≤ 600 := by omega
    have hc6 : 600 ≤ c0 := by omega
    clear hxs hxl hr
    go_enter Try.func3, Try.ntmps3
    go_wp2_with ((go_at_call 8; refine (flagstonelaw2_awake.calls ka true _ hka.out).mono ?_; rintro e w2 ⟨rfl, hb⟩; have HB := Aside0.mk hb; clear hb))
    go_loopw [7] (fun v wr => ∃ n : Int, v = .int .i64 n ∧ Aside0 (-1 ≤ n ∧ n ≤ (600 : Int)) ∧ Aside0 (Below w.heap.size w wr)) (fun v _ => (intOf v + 1).toNat)
    case atStart => exact ⟨(600 : Int), rfl, ⟨by omega⟩, HB⟩
    case round =>
      clear HB
      obtain ⟨n, rfl, hn, HB⟩ := hrel
      by_cases h0 : 0 ≤ n
      · obtain ⟨m, rfl⟩ := Int.eq_ofNat_of_zero_le h0
        by_cases h1 : (580 : Int) < (m : Int)
        · have hml : m ≤ xs.length := by have := hn.out; have := HXL.out; omega
          have hml2 : m ≤ 600 := by have := hn.out; omega
          have hmc : m ≤ c0 := (by have := RX0.out.1; omega)
          obtain ⟨ys, hys⟩ : ∃ ys, ys = xs.take m := ⟨_, rfl⟩
          have hyl : ys.length = m := by rw [hys, List.length_take]; omega
          have HYL := Aside0.mk hyl
          obtain ⟨S, hS⟩ : ∃ S, S = sipSum k0 k1 ys := ⟨_, rfl⟩
          obtain ⟨k, hk⟩ := (rsum_ev ys (by have := HXL.out; omega) k0 k1).rounds
          have HS : Aside0 (digest_Sum.f k0 k1 ys = some S) := ⟨by rw [hS]; exact sum_f ys (by have := HXL.out; omega) k0 k1⟩
          have HSr : Aside0 (flagstoneref2_Sum.f k k0 k1 ys = some S) := ⟨by rw [hS]; exact hk⟩
          have RX : Aside0 (xs.length ≤ c0 ∧ Kd.C (Kd.int .u8) wr A0 xs.length xs) := ⟨RX0.out.1, Kd.C_below RX0.out.2 HB.out⟩
          have HY : Aside0 (ys.length ≤ c0 ∧ Kd.C (Kd.int .u8) wr A0 ys.length ys) := ⟨by rw [HYL.out]; exact hmc, by rw [hys]; exact Kd.C_take RX.out.2 hml⟩
          clear hys hS hk hyl
          go_wp2
          refine free_ (n := 13) (T := su.T8) (B := su.B8) (ent := [(0, 28), (1, 29), (2, 30), (3, 31), (4, 32), (5, 33), (6, 34), (7, 35), (8, 36), (9, 37), (10, 38), (11, 39), (12, 40)]) (F := fun i v w_ => (([(.val (.int .u64 k0)), (.val (.int .u64 k1)), (.val (.slice A0 600 c0)), (.val (.int .i64 (m : Int))), (.cs ys), (.val (.int .u64 S)), (.val (.int .u64 k0)), (.val (.int .u64 k1)), (.val (.slice A0 600 c0)), (.val (.int .i64 (m : Int))), (.cs ys), (.val (.int .u64 S)), (.val (.bool false))] : List Tells).getD i (.val undef)).holds v w_) [0, 1, 2, 3, 4, 5, 6, 7, 8, 9, 10, 11, 12] (by kernel_rfl) rfl su.tab8 su.bits8 (by kernel_rfl) (by kernel_rfl) (by decide) (by decide) (by decide) rfl (fun i v w_ w2_ h_ hb_ => by exact Tells.keep h_ hb_) (below_drew1 (Below.refl _ _)) ?_ ?_
          · skip
            refine stp_cons (fun V a W hB hd ho => ?_) ?_
            · have e0 := (ho 0 (by decide)).trans (show _ = some (.int .u64 k0) from rfl)
              clear hd ho
              refine ⟨_, 28, rfl, by decide, fun K hK => ?_⟩
              refine value_ (w1 := W) (v := (.int .u64 k0)) (by rfl) rfl ?_ (hK _ _ (Below.refl _ _) rfl)
              go_simp
              try rfl
            refine stp_cons (fun V a W hB hd ho => ?_) ?_
            · have e1 := (ho 1 (by decide)).trans (show _ = some (.int .u64 k1) from rfl)
              clear hd ho
              refine ⟨_, 29, rfl, by decide, fun K hK => ?_⟩
              refine value_ (w1 := W) (v := (.int .u64 k1)) (by rfl) rfl ?_ (hK _ _ (Below.refl _ _) rfl)
              go_simp
              try rfl
            refine stp_cons (fun V a W hB hd ho => ?_) ?_
            · have e2 := (ho 2 (by decide)).trans (show _ = some (.slice A0 600 c0) from rfl)
              clear hd ho
              refine ⟨_, 30, rfl, by decide, fun K hK => ?_⟩
              refine value_ (w1 := W) (v := (.slice A0 600 c0)) (by rfl) rfl ?_ (hK _ _ (Below.refl _ _) rfl)
              go_simp
              try rfl
            refine stp_cons (fun V a W hB hd ho => ?_) ?_
            · have e7 := (ho 7 (by decide)).trans (show _ = some (.int .i64 (m : Int)) from rfl)
              clear hd ho
              refine ⟨_, 31, rfl, by decide, fun K hK => ?_⟩
              refine value_ (w1 := W) (v := (.int .i64 (m : Int))) (by rfl) rfl ?_ (hK _ _ (Below.refl _ _) rfl)
              go_simp
              try rfl
            refine stp_cons (fun V a W hB hd ho => ?_) ?_
            · obtain ⟨e30, s30⟩ := hd 2 30 (by decide) (by kernel_rfl)
              rw [show V 2 = (.slice A0 600 c0) from s30] at e30
              clear s30
              obtain ⟨e31, s31⟩ := hd 3 31 (by decide) (by kernel_rfl)
              rw [show V 3 = (.int .i64 (m : Int)) from s31] at e31
              clear s31
              clear hd ho
              refine ⟨_, 32, rfl, by decide, fun K hK => ?_⟩
              refine value_ (w1 := W) (v := .slice A0 ys.length c0) (by rfl) rfl ?_ (hK _ _ (Below.refl _ _) ⟨A0, c0, rfl, HY.out.1, Kd.C_below HY.out.2 hB⟩)
              rw [HYL.out]
              go_simp
              try rfl
            refine stp_cons (fun V a W hB hd ho => ?_) ?_
            · obtain ⟨e28, s28⟩ := hd 0 28 (by decide) (by kernel_rfl)
              rw [show V 0 = (.int .u64 k0) from s28] at e28
              clear s28
              obtain ⟨e29, s29⟩ := hd 1 29 (by decide) (by kernel_rfl)
              rw [show V 1 = (.int .u64 k1) from s29] at e29
              clear s29
              obtain ⟨e32, s32⟩ := hd 4 32 (by decide) (by kernel_rfl)
              clear hd ho
              refine ⟨_, 33, rfl, by decide, fun K hK => ?_⟩
              obtain ⟨Aq, cq, eq_, hcq, hCq⟩ := s32
              rw [eq_] at e32
              refine goes_ Try.func9 (by kernel_rfl) rfl #[.int .u64 k0, .int .u64 k1, .slice Aq ys.length cq] (by rfl) rfl rfl (by simp [Act.eval, e28, e29, e32]) ?_
              refine (digest_Sum.calls k0 k1 Aq cq ys S W hCq hcq HS.out).mono ?_
              rintro e w2_ ⟨rfl, hb⟩
              exact ⟨_, rfl, hK _ _ hb rfl⟩
            refine stp_cons (fun V a W hB hd ho => ?_) ?_
            · have e0 := (ho 0 (by decide)).trans (show _ = some (.int .u64 k0) from rfl)
              clear hd ho
              refine ⟨_, 34, rfl, by decide, fun K hK => ?_⟩
              refine value_ (w1 := W) (v := (.int .u64 k0)) (by rfl) rfl ?_ (hK _ _ (Below.refl _ _) rfl)
              go_simp
              try rfl
            refine stp_cons (fun V a W hB hd ho => ?_) ?_
            · have e1 := (ho 1 (by decide)).trans (show _ = some (.int .u64 k1) from rfl)
              clear hd ho
              refine ⟨_, 35, rfl, by decide, fun K hK => ?_⟩
              refine value_ (w1 := W) (v := (.int .u64 k1)) (by rfl) rfl ?_ (hK _ _ (Below.refl _ _) rfl)
              go_simp
              try rfl
            refine stp_cons (fun V a W hB hd ho => ?_) ?_
            · have e2 := (ho 2 (by decide)).trans (show _ = some (.slice A0 600 c0) from rfl)
              clear hd ho
              refine ⟨_, 36, rfl, by decide, fun K hK => ?_⟩
              refine value_ (w1 := W) (v := (.slice A0 600 c0)) (by rfl) rfl ?_ (hK _ _ (Below.refl _ _) rfl)
              go_simp
              try rfl
            refine stp_cons (fun V a W hB hd ho => ?_) ?_
            · have e7 := (ho 7 (by decide)).trans (show _ = some (.int .i64 (m : Int)) from rfl)
              clear hd ho
              refine ⟨_, 37, rfl, by decide, fun K hK => ?_⟩
              refine value_ (w1 := W) (v := (.int .i64 (m : Int))) (by rfl) rfl ?_ (hK _ _ (Below.refl _ _) rfl)
              go_simp
              try rfl
            refine stp_cons (fun V a W hB hd ho => ?_) ?_
            · obtain ⟨e36, s36⟩ := hd 8 36 (by decide) (by kernel_rfl)
              rw [show V 8 = (.slice A0 600 c0) from s36] at e36
              clear s36
              obtain ⟨e37, s37⟩ := hd 9 37 (by decide) (by kernel_rfl)
              rw [show V 9 = (.int .i64 (m : Int)) from s37] at e37
              clear s37
              clear hd ho
              refine ⟨_, 38, rfl, by decide, fun K hK => ?_⟩
              refine value_ (w1 := W) (v := .slice A0 ys.length c0) (by rfl) rfl ?_ (hK _ _ (Below.refl _ _) ⟨A0, c0, rfl, HY.out.1, Kd.C_below HY.out.2 hB⟩)
              rw [HYL.out]
              go_simp
              try rfl
            refine stp_cons (fun V a W hB hd ho => ?_) ?_
            · obtain ⟨e34, s34⟩ := hd 6 34 (by decide) (by kernel_rfl)
              rw [show V 6 = (.int .u64 k0) from s34] at e34
              clear s34
              obtain ⟨e35, s35⟩ := hd 7 35 (by decide) (by kernel_rfl)
              rw [show V 7 = (.int .u64 k1) from s35] at e35
              clear s35
              obtain ⟨e38, s38⟩ := hd 10 38 (by decide) (by kernel_rfl)
              clear hd ho
              refine ⟨_, 39, rfl, by decide, fun K hK => ?_⟩
              obtain ⟨Aq, cq, eq_, hcq, hCq⟩ := s38
              rw [eq_] at e38
              refine goes_ Try.func10 (by kernel_rfl) rfl #[.int .u64 k0, .int .u64 k1, .slice Aq ys.length cq] (by rfl) rfl rfl (by simp [Act.eval, e34, e35, e38]) ?_
              refine (flagstoneref2_Sum.calls k k0 k1 Aq cq ys S W hCq hcq HSr.out).mono ?_
              rintro e w2_ ⟨rfl, hb⟩
              exact ⟨_, rfl, hK _ _ hb rfl⟩
            refine stp_cons (fun V a W hB hd ho => ?_) ?_
            · obtain ⟨e33, s33⟩ := hd 5 33 (by decide) (by kernel_rfl)
              rw [show V 5 = (.int .u64 S) from s33] at e33
              clear s33
              obtain ⟨e39, s39⟩ := hd 11 39 (by decide) (by kernel_rfl)
              rw [show V 11 = (.int .u64 S) from s39] at e39
              clear s39
              clear hd ho
              refine ⟨_, 40, rfl, by decide, fun K hK => ?_⟩
              refine value_ (w1 := W) (v := (.bool false)) (by rfl) rfl ?_ (hK _ _ (Below.refl _ _) rfl)
              go_simp
              try rfl
            exact stp_nil
          · intro V Wend HBr_ HV_
            have HV := fun i t hm => HV_ (i, t) hm
            clear HV_
            have v40 : V 12 = .bool false := HV 12 40 (by decide)
            clear HV
            have HB2 := Aside0.mk (below_step HB.out HBr_)
            simp only [putSel, Lof, List.map_cons, List.map_nil, if_true, Act.put, List.setIfInBounds_toArray, List.set_cons_zero, List.set_cons_succ]
            rw [v40]
            go_wp2
            go_roundw
            case rel => exact ⟨(m : Int) - 1, rfl, ⟨by have := hn.out; omega⟩, HB2⟩
            case measure => first | (simp [intOf]; done) | (simp [intOf]; omega)
        · go_wp2
          go_ret
          exact ⟨rfl, HB.out⟩
      · go_wp2
        go_ret
        exact ⟨rfl, HB.out⟩
  · have hxle : l.length ≤ 600 := by omega
    obtain ⟨xs, hxs⟩ : ∃ xs, xs = l := ⟨_, rfl⟩
    have HXL : Aside0 (xs.length = l.length) := ⟨by rw [hxs]⟩
    have RX0 : Aside0 (xs.length ≤ c0 ∧ Kd.C (Kd.int .u8) w A0 xs.length xs) := ⟨by rw [hxs]; exact hc, by rw [hxs]; exact hr⟩
    clear hxs hr
    go_enter Try.func3, Try.ntmps3
    go_wp2_with ((go_at_call 8; refine (flagstonelaw2_awake.calls ka true _ hka.out).mono ?_; rintro e w2 ⟨rfl, hb⟩; have HB := Aside0.mk hb; clear hb))
    go_loopw [7] (fun v wr => ∃ n : Int, v = .int .i64 n ∧ Aside0 (-1 ≤ n ∧ n ≤ (l.length : Int)) ∧ Aside0 (Below w.heap.size w wr)) (fun v _ => (intOf v + 1).toNat)
    case atStart => exact ⟨(l.length : Int), rfl, ⟨by omega⟩, HB⟩
    case round =>
      clear HB
      obtain ⟨n, rfl, hn, HB⟩ := hrel
      by_cases h0 : 0 ≤ n
      · obtain ⟨m, rfl⟩ := Int.eq_ofNat_of_zero_le h0
        by_cases h1 : (l.length : Int) - 20 < (m : Int)
        · have hml : m ≤ xs.length := by have := hn.out; have := HXL.out; omega
          have hml2 : m ≤ l.length := by have := hn.out; omega
          have hmc : m ≤ c0 := (by have := RX0.out.1; omega)
          obtain ⟨ys, hys⟩ : ∃ ys, ys = xs.take m := ⟨_, rfl⟩
          have hyl : ys.length = m := by rw [hys, List.length_take]; omega
          have HYL := Aside0.mk hyl
          obtain ⟨S, hS⟩ : ∃ S, S = sipSum k0 k1 ys := ⟨_, rfl⟩
          obtain ⟨k, hk⟩ := (rsum_ev ys (by have := HXL.out; omega) k0 k1).rounds
          have HS : Aside0 (digest_Sum.f k0 k1 ys = some S) := ⟨by rw [hS]; exact sum_f ys (by have := HXL.out; omega) k0 k1⟩
          have HSr : Aside0 (flagstoneref2_Sum.f k k0 k1 ys = some S) := ⟨by rw [hS]; exact hk⟩
          have RX : Aside0 (xs.length ≤ c0 ∧ Kd.C (Kd.int .u8) wr A0 xs.length xs) := ⟨RX0.out.1, Kd.C_below RX0.out.2 HB.out⟩
          have HY : Aside0 (ys.length ≤ c0 ∧ Kd.C (Kd.int .u8) wr A0 ys.length ys) := ⟨by rw [HYL.out]; exact hmc, by rw [hys]; exact Kd.C_take RX.out.2 hml⟩
          clear hys hS hk hyl
          go_wp2
          refine free_ (n := 13) (T := su.T8) (B := su.B8) (ent := [(0, 28), (1, 29), (2, 30), (3, 31), (4, 32), (5, 33), (6, 34), (7, 35), (8, 36), (9, 37), (10, 38), (11, 39), (12, 40)]) (F := fun i v w_ => (([(.val (.int .u64 k0)), (.val (.int .u64 k1)), (.val (.slice A0 l.length c0)), (.val (.int .i64 (m : Int))), (.cs ys), (.val (.int .u64 S)), (.val (.int .u64 k0)), (.val (.int .u64 k1)), (.val (.slice A0 l.length c0)), (.val (.int .i64 (m : Int))), (.cs ys), (.val (.int .u64 S)), (.val (.bool false))] : List Tells).getD i (.val undef)).holds v w_) [0, 1, 2, 3, 4, 5, 6, 7, 8, 9, 10, 11, 12] (by kernel_rfl) rfl su.tab8 su.bits8 (by kernel_rfl) (by kernel_rfl) (by decide) (by decide) (by decide) rfl (fun i v w_ w2_ h_ hb_ => by exact Tells.keep h_ hb_) (below_drew1 (Below.refl _ _)) ?_ ?_
          · skip
            refine stp_cons (fun V a W hB hd ho => ?_) ?_
            · have e0 := (ho 0 (by decide)).trans (show _ = some (.int .u64 k0) from rfl)
              clear hd ho
              refine ⟨_, 28, rfl, by decide, fun K hK => ?_⟩
              refine value_ (w1 := W) (v := (.int .u64 k0)) (by rfl) rfl ?_ (hK _ _ (Below.refl _ _) rfl)
              go_simp
              try rfl
            refine stp_cons (fun V a W hB hd ho => ?_) ?_
            · have e1 := (ho 1 (by decide)).trans (show _ = some (.int .u64 k1) from rfl)
              clear hd ho
              refine ⟨_, 29, rfl, by decide, fun K hK => ?_⟩
              refine value_ (w1 := W) (v := (.int .u64 k1)) (by rfl) rfl ?_ (hK _ _ (Below.refl _ _) rfl)
              go_simp
              try rfl
            refine stp_cons (fun V a W hB hd ho => ?_) ?_
            · have e2 := (ho 2 (by decide)).trans (show _ = some (.slice A0 l.length c0) from rfl)
              clear hd ho
              refine ⟨_, 30, rfl, by decide, fun K hK => ?_⟩
              refine value_ (w1 := W) (v := (.slice A0 l.length c0)) (by rfl) rfl ?_ (hK _ _ (Below.refl _ _) rfl)
              go_simp
              try rfl
            refine stp_cons (fun V a W hB hd ho => ?_) ?_
            · have e7 := (ho 7 (by decide)).trans (show _ = some (.int .i64 (m : Int)) from rfl)
              clear hd ho
              refine ⟨_, 31, rfl, by decide, fun K hK => ?_⟩
              refine value_ (w1 := W) (v := (.int .i64 (m : Int))) (by rfl) rfl ?_ (hK _ _ (Below.refl _ _) rfl)
              go_simp
              try rfl
            refine stp_cons (fun V a W hB hd ho => ?_) ?_
            · obtain ⟨e30, s30⟩ := hd 2 30 (by decide) (by kernel_rfl)
              rw [show V 2 = (.slice A0 l.length c0) from s30] at e30
              clear s30
              obtain ⟨e31, s31⟩ := hd 3 31 (by decide) (by kernel_rfl)
              rw [show V 3 = (.int .i64 (m : Int)) from s31] at e31
              clear s31
              clear hd ho
              refine ⟨_, 32, rfl, by decide, fun K hK => ?_⟩
              refine value_ (w1 := W) (v := .slice A0 ys.length c0) (by rfl) rfl ?_ (hK _ _ (Below.refl _ _) ⟨A0, c0, rfl, HY.out.1, Kd.C_below HY.out.2 hB⟩)
              rw [HYL.out]
              go_simp
              try rfl
            refine stp_cons (fun V a W hB hd ho => ?_) ?_
            · obtain ⟨e28, s28⟩ := hd 0 28 (by decide) (by kernel_rfl)
              rw [show V 0 = (.int .u64 k0) from s28] at e28
              clear s28
              obtain ⟨e29, s29⟩ := hd 1 29 (by decide) (by kernel_rfl)
              rw [show V 1 = (.int .u64 k1) from s29] at e29
              clear s29
              obtain ⟨e32, s32⟩ := hd 4 32 (by decide) (by kernel_rfl)
              clear hd ho
              refine ⟨_, 33, rfl, by decide, fun K hK => ?_⟩
              obtain ⟨Aq, cq, eq_, hcq, hCq⟩ := s32
              rw [eq_] at e32
              refine goes_ Try.func9 (by kernel_rfl) rfl #[.int .u64 k0, .int .u64 k1, .slice Aq ys.length cq] (by rfl) rfl rfl (by simp [Act.eval, e28, e29, e32]) ?_
              refine (digest_Sum.calls k0 k1 Aq cq ys S W hCq hcq HS.out).mono ?_
              rintro e w2_ ⟨rfl, hb⟩
              exact ⟨_, rfl, hK _ _ hb rfl⟩
            refine stp_cons (fun V a W hB hd ho => ?_) ?_
            · have e0 := (ho 0 (by decide)).trans (show _ = some (.int .u64 k0) from rfl)
              clear hd ho
              refine ⟨_, 34, rfl, by decide, fun K hK => ?_⟩
              refine value_ (w1 := W) (v := (.int .u64 k0)) (by rfl) rfl ?_ (hK _ _ (Below.refl _ _) rfl)
              go_simp
              try rfl
            refine stp_cons (fun V a W hB hd ho => ?_) ?_
            · have e1 := (ho 1 (by decide)).trans (show _ = some (.int .u64 k1) from rfl)
              clear hd ho
              refine ⟨_, 35, rfl, by decide, fun K hK => ?_⟩
              refine value_ (w1 := W) (v := (.int .u64 k1)) (by rfl) rfl ?_ (hK _ _ (Below.refl _ _) rfl)
              go_simp
              try rfl
            refine stp_cons (fun V a W hB hd ho => ?_) ?_
            · have e2 := (ho 2 (by decide)).trans (show _ = some (.slice A0 l.length c0) from rfl)
              clear hd ho
              refine ⟨_, 36, rfl, by decide, fun K hK => ?_⟩
              refine value_ (w1 := W) (v := (.slice A0 l.length c0)) (by rfl) rfl ?_ (hK _ _ (Below.refl _ _) rfl)
              go_simp
              try rfl
            refine stp_cons (fun V a W hB hd ho => ?_) ?_
            · have e7 := (ho 7 (by decide)).trans (show _ = some (.int .i64 (m : Int)) from rfl)
              clear hd ho
              refine ⟨_, 37, rfl, by decide, fun K hK => ?_⟩
              refine value_ (w1 := W) (v := (.int .i64 (m : Int))) (by rfl) rfl ?_ (hK _ _ (Below.refl _ _) rfl)
              go_simp
              try rfl
            refine stp_cons (fun V a W hB hd ho => ?_) ?_
            · obtain ⟨e36, s36⟩ := hd 8 36 (by decide) (by kernel_rfl)
              rw [show V 8 = (.slice A0 l.length c0) from s36] at e36
              clear s36
              obtain ⟨e37, s37⟩ := hd 9 37 (by decide) (by kernel_rfl)
              rw [show V 9 = (.int .i64 (m : Int)) from s37] at e37
              clear s37
              clear hd ho
              refine ⟨_, 38, rfl, by decide, fun K hK => ?_⟩
              refine value_ (w1 := W) (v := .slice A0 ys.length c0) (by rfl) rfl ?_ (hK _ _ (Below.refl _ _) ⟨A0, c0, rfl, HY.out.1, Kd.C_below HY.out.2 hB⟩)
              rw [HYL.out]
              go_simp
              try rfl
            refine stp_cons (fun V a W hB hd ho => ?_) ?_
            · obtain ⟨e34, s34⟩ := hd 6 34 (by decide) (by kernel_rfl)
              rw [show V 6 = (.int .u64 k0) from s34] at e34
              clear s34
              obtain ⟨e35, s35⟩ := hd 7 35 (by decide) (by kernel_rfl)
              rw [show V 7 = (.int .u64 k1) from s35] at e35
              clear s35
              obtain ⟨e38, s38⟩ := hd 10 38 (by decide) (by kernel_rfl)
              clear hd ho
              refine ⟨_, 39, rfl, by decide, fun K hK => ?_⟩
              obtain ⟨Aq, cq, eq_, hcq, hCq⟩ := s38
              rw [eq_] at e38
              refine goes_ Try.func10 (by kernel_rfl) rfl #[.int .u64 k0, .int .u64 k1, .slice Aq ys.length cq] (by rfl) rfl rfl (by simp [Act.eval, e34, e35, e38]) ?_
              refine (flagstoneref2_Sum.calls k k0 k1 Aq cq ys S W hCq hcq HSr.out).mono ?_
              rintro e w2_ ⟨rfl, hb⟩
              exact ⟨_, rfl, hK _ _ hb rfl⟩
            refine stp_cons (fun V a W hB hd ho => ?_) ?_
            · obtain ⟨e33, s33⟩ := hd 5 33 (by decide) (by kernel_rfl)
              rw [show V 5 = (.int .u64 S) from s33] at e33
              clear s33
              obtain ⟨e39, s39⟩ := hd 11 39 (by decide) (by kernel_rfl)
              rw [show V 11 = (.int .u64 S) from s39] at e39
              clear s39
              clear hd ho
              refine ⟨_, 40, rfl, by decide, fun K hK => ?_⟩
              refine value_ (w1 := W) (v := (.bool false)) (by rfl) rfl ?_ (hK _ _ (Below.refl _ _) rfl)
              go_simp
              try rfl
            exact stp_nil
          · intro V Wend HBr_ HV_
            have HV := fun i t hm => HV_ (i, t) hm
            clear HV_
            have v40 : V 12 = .bool false := HV 12 40 (by decide)
            clear HV
            have HB2 := Aside0.mk (below_step HB.out HBr_)
            simp only [putSel, Lof, List.map_cons, List.map_nil, if_true, Act.put, List.setIfInBounds_toArray, List.set_cons_zero, List.set_cons_succ]
            rw [v40]
            go_wp2
            go_roundw
            case rel => exact ⟨(m : Int) - 1, rfl, ⟨by have := hn.out; omega⟩, HB2⟩
            case measure => first | (simp [intOf]; done) | (simp [intOf]; omega)
        · go_wp2
          go_ret
          exact ⟨rfl, HB.out⟩
      · go_wp2
        go_ret
        exact ⟨rfl, HB.out⟩
end Go.Proofs.Ytedpmohnnagamaa.WalkSum
