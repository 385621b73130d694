/- DigestLengths' walk: where all that it calls answers, it returns true, for every key and number. -/
import Derived.Test.YtedpmohnnagamaaPureHash
import Derived.Test.YtedpmohnnagamaaFree
import Derived.Lib.Bytes
namespace Go.Proofs.Ytedpmohnnagamaa.WalkLengths
open Go.RowKit Go.Proofs.Ytedpmohnnagamaa.Print Go.Proofs.Ytedpmohnnagamaa.Free Go.Proofs.Ytedpmohnnagamaa.PureDig Go.Proofs.Ytedpmohnnagamaa.PureHash Go.Proofs.YtedpmohnnagamaaW.PrintWords Go.Proofs.YtedpmohnnagamaaW.PrintLast Go.Proofs.YtedpmohnnagamaaW.PrintMore
attribute [local go_sem] max2_int min2_int max_two min_two max_three min_three max_four min_four
set_option linter.unusedVariables false
set_option linter.unusedSimpArgs false
theorem made1 {W : World} {A : Option Addr} {c : Nat} {l : List Int} (hc : l.length ≤ c) (hC : Kd.C (Kd.int .u8) W A l.length l) : Kd.C (Kd.slice 5 (Kd.int .u8)) (W.alloc (.cells #[.slice A l.length c] 23)) (some ⟨W.heap.size, 0, none⟩) [l].length [l] := by
  have hb : W.heap.size = W.heap.size := rfl
  have hcell : (W.alloc (.cells #[.slice A l.length c] 23)).cell? ⟨W.heap.size, 0, none⟩ = some (.slice A l.length c) := (blk_cell (heap_alloc_new W _) 0).trans rfl
  refine ⟨rfl, by simp, fun _ => ⟨_, rfl, fun j p hj => ?_⟩⟩
  match j, hj with
  | 0, hj =>
    obtain rfl : l = p := by simpa using hj
    refine ⟨[.slice A l.length c], rfl, ⟨A, c, rfl, hc, Kd.C_below hC (below_alloc (Below.refl _ _) _)⟩, fun i u hu => ?_⟩
    match i, hu with
    | 0, hu =>
      obtain rfl : Value.slice A l.length c = u := by simpa using hu
      exact hcell
    | i + 1, hu => simp at hu
  | j + 1, hj => simp at hj
theorem made2 {W : World} {A A2 : Option Addr} {c c2 : Nat} {l l2 : List Int} (hc : l.length ≤ c) (hC : Kd.C (Kd.int .u8) W A l.length l) (hc2 : l2.length ≤ c2) (hC2 : Kd.C (Kd.int .u8) W A2 l2.length l2) : Kd.C (Kd.slice 5 (Kd.int .u8)) (W.alloc (.cells #[.slice A l.length c, .slice A2 l2.length c2] 23)) (some ⟨W.heap.size, 0, none⟩) [l, l2].length [l, l2] := by
  have h0 : (W.alloc (.cells #[.slice A l.length c, .slice A2 l2.length c2] 23)).cell? ⟨W.heap.size, 0, none⟩ = some (.slice A l.length c) := (blk_cell (heap_alloc_new W _) 0).trans rfl
  have h1 : (W.alloc (.cells #[.slice A l.length c, .slice A2 l2.length c2] 23)).cell? ⟨W.heap.size, 1, none⟩ = some (.slice A2 l2.length c2) := (blk_cell (heap_alloc_new W _) 1).trans rfl
  refine ⟨rfl, by simp, fun _ => ⟨_, rfl, fun j p hj => ?_⟩⟩
  match j, hj with
  | 0, hj =>
    obtain rfl : l = p := by simpa using hj
    refine ⟨[.slice A l.length c], rfl, ⟨A, c, rfl, hc, Kd.C_below hC (below_alloc (Below.refl _ _) _)⟩, fun i u hu => ?_⟩
    match i, hu with
    | 0, hu =>
      obtain rfl : Value.slice A l.length c = u := by simpa using hu
      exact h0
    | i + 1, hu => simp at hu
  | 1, hj =>
    obtain rfl : l2 = p := by simpa using hj
    refine ⟨[.slice A2 l2.length c2], rfl, ⟨A2, c2, rfl, hc2, Kd.C_below hC2 (below_alloc (Below.refl _ _) _)⟩, fun i u hu => ?_⟩
    match i, hu with
    | 0, hu =>
      obtain rfl : Value.slice A2 l2.length c2 = u := by simpa using hu
      exact h1
    | i + 1, hu => simp at hu
  | j + 2, hj => simp at hj
def le.T6 : Bool × List (List Nat × List Nat) := (true, [([], []), ([], []), ([0, 1], [0, 1]), ([], []), ([], []), ([3, 4, 2], [3, 4]), ([2, 5], [2, 5]), ([6, 5], [6]), ([7], [7]), ([7], [7]), ([8, 9, 7, 7], [7, 8, 9]), ([7], [7]), ([7], [7]), ([11, 12, 10, 7], [7, 11, 12]), ([10, 13, 7], [7, 10, 13]), ([7, 14], [7, 14]), ([15, 13], [15]), ([16], [16]), ([17, 16], [16, 17]), ([18, 16, 16], [16, 18]), ([19, 16], [16, 19]), ([16], [16]), ([21, 16], [16, 21]), ([22, 19, 16], [16, 22]), ([23, 16], [16, 23]), ([20, 24, 16], [16, 20, 24]), ([16, 25], [16, 25]), ([26, 23], [26]), ([27], [27]), ([27], [27]), ([28, 29, 27], [27, 28, 29]), ([30, 27, 27], [27, 30]), ([31, 27], [27, 31]), ([27], [27]), ([33, 27], [27, 33]), ([34, 27], [27, 34]), ([32, 35, 27], [27, 32, 35]), ([27, 36], [27, 36]), ([37, 31, 0, 1, 2, 3, 4, 5, 6, 7, 8, 9, 10, 11, 12, 13, 14, 15, 16, 17, 18, 19, 20, 21, 22, 23, 24, 25, 26, 27, 28, 29, 30, 31, 32, 33, 34, 35, 36, 37], [37])])
def le.B6 : List Nat := [0, 0, 3, 0, 0, 31, 63, 127, 255, 255, 1023, 255, 255, 8191, 16383, 32767, 65535, 131071, 262143, 524287, 1048575, 131071, 2228223, 7340031, 15728639, 33554431, 67108863, 134217727, 268435455, 268435455, 1073741823, 2147483647, 4294967295, 268435455, 8858370047, 26038239231, 68719476735, 137438953471, 274877906943]
theorem le.tab6 : rtab .any (opsOf Try.f6 6) = le.T6 := by kernel_rfl
theorem le.bits6 : waitsOk le.T6.2 le.B6 = true := by kernel_rfl
set_option maxHeartbeats 8000000 in
set_option maxRecDepth 100000 in
theorem walk0 (k : Nat) (k0 a1 ji5 ji8 : Int) (S1 S2 : Int) (y248 y251 FB FC FD : List Int) (w : World) (A3 : Aside0 (flagstonelaw2_awake.f k = some true)) (hji5 : (Int.tmod (wrap64 ((Int.tmod a1 300) + 300)) 300) = ji5) (hji8 : (wrap64 ((ji5) + 1)) = ji8) (hji8w : (IntKind.i64.wrap ((ji5) + 1)) = ji8)
    (c6 : 0 ≤ ji5) (c7b1 : decide ((ji5 : Int).toNat ≤ 281474976710656) = true) (c9 : 0 ≤ ji8) (c10b1 : decide ((ji8 : Int).toNat ≤ 281474976710656) = true) (c6u : ji5 < 300) (Ny248 : Aside0 (y248 = (List.replicate (ji5 : Int).toNat 0))) (Ny251 : Aside0 (y251 = (List.replicate (ji8 : Int).toNat 0)))
    (H1 : Aside0 (digest_Sum.f k0 0 y248 = some S1)) (H1r : Aside0 (flagstoneref2_Sum.f k k0 0 y248 = some S1)) (H2 : Aside0 (digest_Sum.f k0 0 y251 = some S2)) (H2r : Aside0 (flagstoneref2_Sum.f k k0 0 y251 = some S2)) (HFB : Aside0 (digest_Frame.f k [y248] = some FB)) (HFC : Aside0 (digest_Frame.f k [y251] = some FC)) (HFD : Aside0 (digest_Frame.f k [y248, y251] = some FD))
    (HNE : Aside0 ((strOfNums FB).toList ≠ (strOfNums FC).toList)) (HLN : Aside0 ((FD.length : Int) = 2 * ji5 + 17)) :
    Calls Try.prog 6 #[.int .u64 k0, .int .i64 a1] w fun e w' => e = .returned (.bool true) ∧ Below w.heap.size w w' := by
  have HB := Aside0.mk (Below.refl w.heap.size w)
  have c6b0 := eq_true c6
  have c6b1 : decide (0 ≤ (ji5)) = true := decide_eq_true c6
  have c9b0 := eq_true c9
  have c9b1 : decide (0 ≤ (ji8)) = true := decide_eq_true c9
  have c7b0 := eq_true (of_decide_eq_true c7b1)
  have c10b0 := eq_true (of_decide_eq_true c10b1)
  have C6 := Aside0.mk (And.intro c6 c6u)
  clear c6 c9 c6u
  go_enter Try.func6, Try.ntmps6
  go_wp2_with (first | ((with_reducible refine gate_callee (f := 8) rfl ?_); refine goesL_ (some 7) rfl rfl Try.func8 (by kernel_rfl) rfl #[] rfl (by (try simp only [List.map_toArray, List.map_cons, List.map_nil]); first | done | rfl | (simp only [List.length_drop, List.length_take]; rfl)) ?_; (with_reducible refine (flagstonelaw2_awake.calls k  true _ A3.out).mono ?_); rintro e w11 ⟨rfl, hb⟩; refine ⟨_, rfl, ?_⟩; have n0_ := Aside0.mk (below_step (by repeat (first | (with_reducible first | exact HB.out | apply below_alloc | apply pw_below_drewN | apply below_drew1) | exact HB.out)) hb); clear HB; have HB := n0_; clear n0_; (try clear hb); (try clear hb2); (try clear hk); (try clear hi)) | ((with_reducible refine gate_dst (N := 14) rfl ?_); refine Kd.R_make (Kd.int .u8) _ 5 rfl (N := 14) rfl 23 _ _ rfl ji5 rfl rfl Try.underlying23 (.int .u8 0) 1 info5 rfl (by decide) (by omega) 0 (ok := fun _ => True) (okp := fun _ => True) rfl (fun _ hk => hk) trivial (of_decide_eq_true (by first | (with_reducible assumption) | assumption)) (Nat.le_trans (Nat.mul_le_mul_right _ (of_decide_eq_true (by first | (with_reducible assumption) | assumption) : ji5.toNat ≤ 281474976710656)) (by omega)) (Below.refl _ _) (Nat.le_refl _) ?_; intro v249 w12 ho13 hb hg_ hnew_; clear hg_ hnew_; (first | rw [← Ny248.out] at ho13 | (simp only [Int.reduceToNat] at ho13; rw [← Ny248.out] at ho13)); have n0_ := Aside0.mk (Kd.R_lower ho13 (below_size (by repeat (first | (with_reducible first | exact HB.out | apply below_alloc | apply pw_below_drewN | apply below_drew1) | exact HB.out)))); have n1_ := Aside0.mk (below_step (by repeat (first | (with_reducible first | exact HB.out | apply below_alloc | apply pw_below_drewN | apply below_drew1) | exact HB.out)) hb); clear HB; have HO250 := n0_; have HB := n1_; clear n0_ n1_; clear hb ho13) | ((with_reducible refine gate_dst (N := 17) rfl ?_); refine Kd.R_make (Kd.int .u8) _ 5 rfl (N := 17) rfl 23 _ _ rfl ji8 rfl rfl Try.underlying23 (.int .u8 0) 1 info5 rfl (by decide) (by omega) 0 (ok := fun _ => True) (okp := fun _ => True) rfl (fun _ hk => hk) trivial (of_decide_eq_true (by first | (with_reducible assumption) | assumption)) (Nat.le_trans (Nat.mul_le_mul_right _ (of_decide_eq_true (by first | (with_reducible assumption) | assumption) : ji8.toNat ≤ 281474976710656)) (by omega)) (Below.refl _ _) (Nat.le_refl _) ?_; intro v252 w14 ho15 hb hg_ hnew_; clear hg_ hnew_; (first | rw [← Ny251.out] at ho15 | (simp only [Int.reduceToNat] at ho15; rw [← Ny251.out] at ho15)); have n0_ := Aside0.mk (Kd.R_elder' (by (with_reducible repeat (first | apply Kd.R_alloc | apply Kd.R_drewN | apply Kd.R_drew)); exact HO250.out) (Kd.R_base ho15) hb); have n1_ := Aside0.mk (Kd.R_lower (Kd.R_new' ho15 (Kd.R_lt (by (with_reducible repeat (first | apply Kd.R_alloc | apply Kd.R_drewN | apply Kd.R_drew)); exact HO250.out))) (below_size (by repeat (first | (with_reducible first | exact HB.out | apply below_alloc | apply pw_below_drewN | apply below_drew1) | exact HB.out)))); have n2_ := Aside0.mk (below_step (by repeat (first | (with_reducible first | exact HB.out | apply below_alloc | apply pw_below_drewN | apply below_drew1) | exact HB.out)) hb); clear HO250; clear HB; have HO250 := n0_; have HO253 := n1_; have HB := n2_; clear n0_ n1_ n2_; clear hb ho15))
  obtain ⟨Ax, cx, e1⟩ := Kd.R_slice HO250.out
  subst e1
  obtain ⟨Az, cz, e1⟩ := Kd.R_slice HO253.out
  subst e1
  have RB := Aside0.mk (Kd.R_reads' HO250.out).2
  have RC := Aside0.mk (Kd.R_reads' HO253.out).2
  clear HO250 HO253 hji5 hji8 hji8w c6b0 c6b1 c9b0 c9b1 c7b0 c10b0 c7b1 c10b1
  have c6 := C6.out.1
  have c6u := C6.out.2
  refine free_ (n := 39) (T := le.T6) (B := le.B6) (ent := [(0, 18), (1, 19), (2, 20), (3, 21), (4, 22), (5, 23), (6, 24), (7, 25), (8, 26), (9, 27), (10, 28), (11, 29), (12, 30), (13, 31), (14, 32), (15, 33), (16, 34), (17, 35), (18, 36), (19, 37), (20, 38), (21, 39), (22, 40), (23, 41), (24, 42), (25, 43), (26, 44), (27, 45), (28, 46), (29, 47), (30, 48), (31, 49), (32, 50), (33, 51), (34, 52), (35, 53), (36, 54), (37, 55), (38, 4)]) (F := fun i v w_ => (([(.val (.int .u64 k0)), (.cs y248), (.val (.int .u64 S1)), (.val (.int .u64 k0)), (.cs y248), (.val (.int .u64 S1)), (.val (.bool true)), (.val (.bool true)), (.val (.int .u64 k0)), (.cs y251), (.val (.int .u64 S2)), (.val (.int .u64 k0)), (.cs y251), (.val (.int .u64 S2)), (.val (.bool true)), (.val (.bool true)), (.val (.bool true)), (.cs y248), (.css 5 [y248]), (.cs FB), (.val (.string (strOfNums FB))), (.cs y251), (.css 5 [y251]), (.cs FC), (.val (.string (strOfNums FC))), (.val (.bool true)), (.val (.bool true)), (.val (.bool true)), (.cs y248), (.cs y251), (.css 5 [y248, y251]), (.cs FD), (.val (.int .i64 (FD.length : Int))), (.val (.int .i64 ji5)), (.val (.int .i64 (2 * ji5))), (.val (.int .i64 (2 * ji5 + 17))), (.val (.bool true)), (.val (.bool true)), (.val (.bool true))] : List Tells).getD i (.val undef)).holds v w_) [0, 1, 2, 3, 4, 5, 6, 7, 8, 9, 10, 11, 12, 13, 14, 15, 16, 17, 18, 19, 20, 21, 22, 23, 24, 25, 26, 27, 28, 29, 30, 31, 32, 33, 34, 35, 36, 37, 38] (by kernel_rfl) rfl le.tab6 le.bits6 (by kernel_rfl) (by kernel_rfl) (by decide) (by decide) (by decide) rfl (fun i v w_ w2_ h_ hb_ => by exact Tells.keep h_ hb_) (below_drew1 (Below.refl _ _)) ?_ ?_
  · skip
    refine stp_cons (fun V a W hB hd ho => ?_) ?_
    · have e0 := (ho 0 (by decide)).trans (show _ = some (.int .u64 k0) from rfl)
      clear hd ho
      refine ⟨_, 18, rfl, by decide, fun K hK => ?_⟩
      refine value_ (w1 := W) (v := (.int .u64 k0)) (by rfl) rfl ?_ (hK _ _ (Below.refl _ _) rfl)
      go_simp
      try rfl
    refine stp_cons (fun V a W hB hd ho => ?_) ?_
    · have e5 := (ho 5 (by decide)).trans (show _ = some (.slice Ax y248.length cx) from rfl)
      clear hd ho
      refine ⟨_, 19, rfl, by decide, fun K hK => ?_⟩
      exact value_ (w1 := W) (v := .slice Ax y248.length cx) (by rfl) rfl (by go_simp) (hK _ _ (Below.refl _ _) ⟨_, _, rfl, RB.out.1, Kd.C_below RB.out.2 hB⟩)
    refine stp_cons (fun V a W hB hd ho => ?_) ?_
    · obtain ⟨e18, s18⟩ := hd 0 18 (by decide) (by kernel_rfl)
      rw [show V 0 = (.int .u64 k0) from s18] at e18
      clear s18
      obtain ⟨e19, s19⟩ := hd 1 19 (by decide) (by kernel_rfl)
      clear hd ho
      refine ⟨_, 20, rfl, by decide, fun K hK => ?_⟩
      obtain ⟨Aq, cq, eq_, hcq, hCq⟩ := s19
      rw [eq_] at e19
      refine goes_ Try.func9 (by kernel_rfl) rfl #[.int .u64 k0, .int .u64 0, .slice Aq y248.length cq] (by rfl) rfl rfl (by simp [Act.eval, e18, e19]) ?_
      refine (digest_Sum.calls k0 0 Aq cq y248 S1 W hCq hcq H1.out).mono ?_
      rintro e w2_ ⟨rfl, hb⟩
      exact ⟨_, rfl, hK _ _ hb rfl⟩
    refine stp_cons (fun V a W hB hd ho => ?_) ?_
    · have e0 := (ho 0 (by decide)).trans (show _ = some (.int .u64 k0) from rfl)
      clear hd ho
      refine ⟨_, 21, rfl, by decide, fun K hK => ?_⟩
      refine value_ (w1 := W) (v := (.int .u64 k0)) (by rfl) rfl ?_ (hK _ _ (Below.refl _ _) rfl)
      go_simp
      try rfl
    refine stp_cons (fun V a W hB hd ho => ?_) ?_
    · have e5 := (ho 5 (by decide)).trans (show _ = some (.slice Ax y248.length cx) from rfl)
      clear hd ho
      refine ⟨_, 22, rfl, by decide, fun K hK => ?_⟩
      exact value_ (w1 := W) (v := .slice Ax y248.length cx) (by rfl) rfl (by go_simp) (hK _ _ (Below.refl _ _) ⟨_, _, rfl, RB.out.1, Kd.C_below RB.out.2 hB⟩)
    refine stp_cons (fun V a W hB hd ho => ?_) ?_
    · obtain ⟨e21, s21⟩ := hd 3 21 (by decide) (by kernel_rfl)
      rw [show V 3 = (.int .u64 k0) from s21] at e21
      clear s21
      obtain ⟨e22, s22⟩ := hd 4 22 (by decide) (by kernel_rfl)
      clear hd ho
      refine ⟨_, 23, rfl, by decide, fun K hK => ?_⟩
      obtain ⟨Aq, cq, eq_, hcq, hCq⟩ := s22
      rw [eq_] at e22
      refine goes_ Try.func10 (by kernel_rfl) rfl #[.int .u64 k0, .int .u64 0, .slice Aq y248.length cq] (by rfl) rfl rfl (by simp [Act.eval, e21, e22]) ?_
      refine (flagstoneref2_Sum.calls k k0 0 Aq cq y248 S1 W hCq hcq H1r.out).mono ?_
      rintro e w2_ ⟨rfl, hb⟩
      exact ⟨_, rfl, hK _ _ hb rfl⟩
    refine stp_cons (fun V a W hB hd ho => ?_) ?_
    · obtain ⟨e20, s20⟩ := hd 2 20 (by decide) (by kernel_rfl)
      rw [show V 2 = (.int .u64 S1) from s20] at e20
      clear s20
      obtain ⟨e23, s23⟩ := hd 5 23 (by decide) (by kernel_rfl)
      rw [show V 5 = (.int .u64 S1) from s23] at e23
      clear s23
      clear hd ho
      refine ⟨_, 24, rfl, by decide, fun K hK => ?_⟩
      refine value_ (w1 := W) (v := (.bool true)) (by rfl) rfl ?_ (hK _ _ (Below.refl _ _) rfl)
      go_simp
      try rfl
    refine stp_cons (fun V a W hB hd ho => ?_) ?_
    · obtain ⟨e24, s24⟩ := hd 6 24 (by decide) (by kernel_rfl)
      rw [show V 6 = (.bool true) from s24] at e24
      clear s24
      clear hd ho
      refine ⟨_, 25, rfl, by decide, fun K hK => ?_⟩
      refine value_ (w1 := W) (v := (.bool true)) (by rfl) rfl ?_ (hK _ _ (Below.refl _ _) rfl)
      go_simp
      try rfl
    refine stp_cons (fun V a W hB hd ho => ?_) ?_
    · have e0 := (ho 0 (by decide)).trans (show _ = some (.int .u64 k0) from rfl)
      obtain ⟨e25, s25⟩ := hd 7 25 (by decide) (by kernel_rfl)
      rw [show V 7 = (.bool true) from s25] at e25
      clear s25
      clear hd ho
      refine ⟨_, 26, rfl, by decide, fun K hK => ?_⟩
      refine value_ (w1 := W) (v := (.int .u64 k0)) (wanted_on rfl rfl rfl e25) rfl ?_ (hK _ _ (Below.refl _ _) rfl)
      go_simp
      try rfl
    refine stp_cons (fun V a W hB hd ho => ?_) ?_
    · have e6 := (ho 6 (by decide)).trans (show _ = some (.slice Az y251.length cz) from rfl)
      obtain ⟨e25, s25⟩ := hd 7 25 (by decide) (by kernel_rfl)
      rw [show V 7 = (.bool true) from s25] at e25
      clear s25
      clear hd ho
      refine ⟨_, 27, rfl, by decide, fun K hK => ?_⟩
      exact value_ (w1 := W) (v := .slice Az y251.length cz) (wanted_on rfl rfl rfl e25) rfl (by go_simp) (hK _ _ (Below.refl _ _) ⟨_, _, rfl, RC.out.1, Kd.C_below RC.out.2 hB⟩)
    refine stp_cons (fun V a W hB hd ho => ?_) ?_
    · obtain ⟨e26, s26⟩ := hd 8 26 (by decide) (by kernel_rfl)
      rw [show V 8 = (.int .u64 k0) from s26] at e26
      clear s26
      obtain ⟨e27, s27⟩ := hd 9 27 (by decide) (by kernel_rfl)
      obtain ⟨e25, s25⟩ := hd 7 25 (by decide) (by kernel_rfl)
      rw [show V 7 = (.bool true) from s25] at e25
      clear s25
      clear hd ho
      refine ⟨_, 28, rfl, by decide, fun K hK => ?_⟩
      obtain ⟨Aq, cq, eq_, hcq, hCq⟩ := s27
      rw [eq_] at e27
      refine goes_ Try.func9 (by kernel_rfl) rfl #[.int .u64 k0, .int .u64 0, .slice Aq y251.length cq] (wanted_on rfl rfl rfl e25) rfl rfl (by simp [Act.eval, e26, e27, e25]) ?_
      refine (digest_Sum.calls k0 0 Aq cq y251 S2 W hCq hcq H2.out).mono ?_
      rintro e w2_ ⟨rfl, hb⟩
      exact ⟨_, rfl, hK _ _ hb rfl⟩
    refine stp_cons (fun V a W hB hd ho => ?_) ?_
    · have e0 := (ho 0 (by decide)).trans (show _ = some (.int .u64 k0) from rfl)
      obtain ⟨e25, s25⟩ := hd 7 25 (by decide) (by kernel_rfl)
      rw [show V 7 = (.bool true) from s25] at e25
      clear s25
      clear hd ho
      refine ⟨_, 29, rfl, by decide, fun K hK => ?_⟩
      refine value_ (w1 := W) (v := (.int .u64 k0)) (wanted_on rfl rfl rfl e25) rfl ?_ (hK _ _ (Below.refl _ _) rfl)
      go_simp
      try rfl
    refine stp_cons (fun V a W hB hd ho => ?_) ?_
    · have e6 := (ho 6 (by decide)).trans (show _ = some (.slice Az y251.length cz) from rfl)
      obtain ⟨e25, s25⟩ := hd 7 25 (by decide) (by kernel_rfl)
      rw [show V 7 = (.bool true) from s25] at e25
      clear s25
      clear hd ho
      refine ⟨_, 30, rfl, by decide, fun K hK => ?_⟩
      exact value_ (w1 := W) (v := .slice Az y251.length cz) (wanted_on rfl rfl rfl e25) rfl (by go_simp) (hK _ _ (Below.refl _ _) ⟨_, _, rfl, RC.out.1, Kd.C_below RC.out.2 hB⟩)
    refine stp_cons (fun V a W hB hd ho => ?_) ?_
    · obtain ⟨e29, s29⟩ := hd 11 29 (by decide) (by kernel_rfl)
      rw [show V 11 = (.int .u64 k0) from s29] at e29
      clear s29
      obtain ⟨e30, s30⟩ := hd 12 30 (by decide) (by kernel_rfl)
      obtain ⟨e25, s25⟩ := hd 7 25 (by decide) (by kernel_rfl)
      rw [show V 7 = (.bool true) from s25] at e25
      clear s25
      clear hd ho
      refine ⟨_, 31, rfl, by decide, fun K hK => ?_⟩
      obtain ⟨Aq, cq, eq_, hcq, hCq⟩ := s30
      rw [eq_] at e30
      refine goes_ Try.func10 (by kernel_rfl) rfl #[.int .u64 k0, .int .u64 0, .slice Aq y251.length cq] (wanted_on rfl rfl rfl e25) rfl rfl (by simp [Act.eval, e29, e30, e25]) ?_
      refine (flagstoneref2_Sum.calls k k0 0 Aq cq y251 S2 W hCq hcq H2r.out).mono ?_
      rintro e w2_ ⟨rfl, hb⟩
      exact ⟨_, rfl, hK _ _ hb rfl⟩
    refine stp_cons (fun V a W hB hd ho => ?_) ?_
    · obtain ⟨e28, s28⟩ := hd 10 28 (by decide) (by kernel_rfl)
      rw [show V 10 = (.int .u64 S2) from s28] at e28
      clear s28
      obtain ⟨e31, s31⟩ := hd 13 31 (by decide) (by kernel_rfl)
      rw [show V 13 = (.int .u64 S2) from s31] at e31
      clear s31
      obtain ⟨e25, s25⟩ := hd 7 25 (by decide) (by kernel_rfl)
      rw [show V 7 = (.bool true) from s25] at e25
      clear s25
      clear hd ho
      refine ⟨_, 32, rfl, by decide, fun K hK => ?_⟩
      refine value_ (w1 := W) (v := (.bool true)) (wanted_on rfl rfl rfl e25) rfl ?_ (hK _ _ (Below.refl _ _) rfl)
      go_simp
      try rfl
    refine stp_cons (fun V a W hB hd ho => ?_) ?_
    · obtain ⟨e25, s25⟩ := hd 7 25 (by decide) (by kernel_rfl)
      rw [show V 7 = (.bool true) from s25] at e25
      clear s25
      obtain ⟨e32, s32⟩ := hd 14 32 (by decide) (by kernel_rfl)
      rw [show V 14 = (.bool true) from s32] at e32
      clear s32
      clear hd ho
      refine ⟨_, 33, rfl, by decide, fun K hK => ?_⟩
      refine value_ (w1 := W) (v := (.bool true)) (by rfl) rfl ?_ (hK _ _ (Below.refl _ _) rfl)
      go_simp
      try rfl
    refine stp_cons (fun V a W hB hd ho => ?_) ?_
    · obtain ⟨e33, s33⟩ := hd 15 33 (by decide) (by kernel_rfl)
      rw [show V 15 = (.bool true) from s33] at e33
      clear s33
      clear hd ho
      refine ⟨_, 34, rfl, by decide, fun K hK => ?_⟩
      refine value_ (w1 := W) (v := (.bool true)) (by rfl) rfl ?_ (hK _ _ (Below.refl _ _) rfl)
      go_simp
      try rfl
    refine stp_cons (fun V a W hB hd ho => ?_) ?_
    · have e5 := (ho 5 (by decide)).trans (show _ = some (.slice Ax y248.length cx) from rfl)
      obtain ⟨e34, s34⟩ := hd 16 34 (by decide) (by kernel_rfl)
      rw [show V 16 = (.bool true) from s34] at e34
      clear s34
      clear hd ho
      refine ⟨_, 35, rfl, by decide, fun K hK => ?_⟩
      exact value_ (w1 := W) (v := .slice Ax y248.length cx) (wanted_on rfl rfl rfl e34) rfl (by go_simp) (hK _ _ (Below.refl _ _) ⟨_, _, rfl, RB.out.1, Kd.C_below RB.out.2 hB⟩)
    refine stp_cons (fun V a W hB hd ho => ?_) ?_
    · obtain ⟨e35, s35⟩ := hd 17 35 (by decide) (by kernel_rfl)
      obtain ⟨e34, s34⟩ := hd 16 34 (by decide) (by kernel_rfl)
      rw [show V 16 = (.bool true) from s34] at e34
      clear s34
      clear hd ho
      refine ⟨_, 36, rfl, by decide, fun K hK => ?_⟩
      obtain ⟨Aq, cq, eq_, hcq, hCq⟩ := s35
      rw [eq_] at e35
      clear eq_
      refine value_ (w1 := W.alloc (.cells #[.slice Aq y248.length cq] 23)) (v := .slice (some ⟨W.heap.size, 0, none⟩) 1 1) (wanted_on rfl rfl rfl e34) rfl ?_ (hK _ _ (below_alloc (Below.refl _ _) _) ⟨_, 1, rfl, Nat.le_refl _, made1 hcq hCq⟩)
      go_simp
      try rfl
    refine stp_cons (fun V a W hB hd ho => ?_) ?_
    · obtain ⟨e36, s36⟩ := hd 18 36 (by decide) (by kernel_rfl)
      obtain ⟨e34, s34⟩ := hd 16 34 (by decide) (by kernel_rfl)
      rw [show V 16 = (.bool true) from s34] at e34
      clear s34
      clear hd ho
      refine ⟨_, 37, rfl, by decide, fun K hK => ?_⟩
      obtain ⟨Aq, cq, eq_, hcq, hCq⟩ := s36
      rw [eq_] at e36
      refine goes_ Try.func12 (by kernel_rfl) rfl #[.slice Aq [y248].length cq] (wanted_on rfl rfl rfl e34) rfl rfl (by simp [Act.eval, e36, e34]) ?_
      refine (digest_Frame.calls k Aq cq [y248] FB W hCq hcq HFB.out).mono ?_
      rintro e w2_ ⟨v, rfl, hR, hb⟩
      exact ⟨_, rfl, hK _ _ hb (holds_R hR)⟩
    refine stp_cons (fun V a W hB hd ho => ?_) ?_
    · obtain ⟨e37, s37⟩ := hd 19 37 (by decide) (by kernel_rfl)
      obtain ⟨e34, s34⟩ := hd 16 34 (by decide) (by kernel_rfl)
      rw [show V 16 = (.bool true) from s34] at e34
      clear s34
      clear hd ho
      refine ⟨_, 38, rfl, by decide, fun K hK => ?_⟩
      obtain ⟨Aq, cq, eq_, hcq, hCq⟩ := s37
      rw [eq_] at e37
      have hcv := Kd.C_string (P := Try.prog) (A := Aq) (c := cq) Try.underlying23 Try.underlying5 Try.underlying9 hCq
      clear eq_
      refine value_ (w1 := W) (v := .string (strOfNums FB)) (wanted_on rfl rfl rfl e34) rfl ?_ (hK _ _ (Below.refl _ _) rfl)
      go_simp
      try (constructor <;> rfl)
    refine stp_cons (fun V a W hB hd ho => ?_) ?_
    · have e6 := (ho 6 (by decide)).trans (show _ = some (.slice Az y251.length cz) from rfl)
      obtain ⟨e34, s34⟩ := hd 16 34 (by decide) (by kernel_rfl)
      rw [show V 16 = (.bool true) from s34] at e34
      clear s34
      clear hd ho
      refine ⟨_, 39, rfl, by decide, fun K hK => ?_⟩
      exact value_ (w1 := W) (v := .slice Az y251.length cz) (wanted_on rfl rfl rfl e34) rfl (by go_simp) (hK _ _ (Below.refl _ _) ⟨_, _, rfl, RC.out.1, Kd.C_below RC.out.2 hB⟩)
    refine stp_cons (fun V a W hB hd ho => ?_) ?_
    · obtain ⟨e39, s39⟩ := hd 21 39 (by decide) (by kernel_rfl)
      obtain ⟨e34, s34⟩ := hd 16 34 (by decide) (by kernel_rfl)
      rw [show V 16 = (.bool true) from s34] at e34
      clear s34
      clear hd ho
      refine ⟨_, 40, rfl, by decide, fun K hK => ?_⟩
      obtain ⟨Aq, cq, eq_, hcq, hCq⟩ := s39
      rw [eq_] at e39
      clear eq_
      refine value_ (w1 := W.alloc (.cells #[.slice Aq y251.length cq] 23)) (v := .slice (some ⟨W.heap.size, 0, none⟩) 1 1) (wanted_on rfl rfl rfl e34) rfl ?_ (hK _ _ (below_alloc (Below.refl _ _) _) ⟨_, 1, rfl, Nat.le_refl _, made1 hcq hCq⟩)
      go_simp
      try rfl
    refine stp_cons (fun V a W hB hd ho => ?_) ?_
    · obtain ⟨e40, s40⟩ := hd 22 40 (by decide) (by kernel_rfl)
      obtain ⟨e34, s34⟩ := hd 16 34 (by decide) (by kernel_rfl)
      rw [show V 16 = (.bool true) from s34] at e34
      clear s34
      clear hd ho
      refine ⟨_, 41, rfl, by decide, fun K hK => ?_⟩
      obtain ⟨Aq, cq, eq_, hcq, hCq⟩ := s40
      rw [eq_] at e40
      refine goes_ Try.func12 (by kernel_rfl) rfl #[.slice Aq [y251].length cq] (wanted_on rfl rfl rfl e34) rfl rfl (by simp [Act.eval, e40, e34]) ?_
      refine (digest_Frame.calls k Aq cq [y251] FC W hCq hcq HFC.out).mono ?_
      rintro e w2_ ⟨v, rfl, hR, hb⟩
      exact ⟨_, rfl, hK _ _ hb (holds_R hR)⟩
    refine stp_cons (fun V a W hB hd ho => ?_) ?_
    · obtain ⟨e41, s41⟩ := hd 23 41 (by decide) (by kernel_rfl)
      obtain ⟨e34, s34⟩ := hd 16 34 (by decide) (by kernel_rfl)
      rw [show V 16 = (.bool true) from s34] at e34
      clear s34
      clear hd ho
      refine ⟨_, 42, rfl, by decide, fun K hK => ?_⟩
      obtain ⟨Aq, cq, eq_, hcq, hCq⟩ := s41
      rw [eq_] at e41
      have hcv := Kd.C_string (P := Try.prog) (A := Aq) (c := cq) Try.underlying23 Try.underlying5 Try.underlying9 hCq
      clear eq_
      refine value_ (w1 := W) (v := .string (strOfNums FC)) (wanted_on rfl rfl rfl e34) rfl ?_ (hK _ _ (Below.refl _ _) rfl)
      go_simp
      try (constructor <;> rfl)
    refine stp_cons (fun V a W hB hd ho => ?_) ?_
    · obtain ⟨e38, s38⟩ := hd 20 38 (by decide) (by kernel_rfl)
      rw [show V 20 = (.string (strOfNums FB)) from s38] at e38
      clear s38
      obtain ⟨e42, s42⟩ := hd 24 42 (by decide) (by kernel_rfl)
      rw [show V 24 = (.string (strOfNums FC)) from s42] at e42
      clear s42
      obtain ⟨e34, s34⟩ := hd 16 34 (by decide) (by kernel_rfl)
      rw [show V 16 = (.bool true) from s34] at e34
      clear s34
      clear hd ho
      refine ⟨_, 43, rfl, by decide, fun K hK => ?_⟩
      have hne := HNE.out
      refine value_ (w1 := W) (v := .bool true) (wanted_on rfl rfl rfl e34) rfl ?_ (hK _ _ (Below.refl _ _) rfl)
      go_simp
    refine stp_cons (fun V a W hB hd ho => ?_) ?_
    · obtain ⟨e34, s34⟩ := hd 16 34 (by decide) (by kernel_rfl)
      rw [show V 16 = (.bool true) from s34] at e34
      clear s34
      obtain ⟨e43, s43⟩ := hd 25 43 (by decide) (by kernel_rfl)
      rw [show V 25 = (.bool true) from s43] at e43
      clear s43
      clear hd ho
      refine ⟨_, 44, rfl, by decide, fun K hK => ?_⟩
      refine value_ (w1 := W) (v := (.bool true)) (by rfl) rfl ?_ (hK _ _ (Below.refl _ _) rfl)
      go_simp
      try rfl
    refine stp_cons (fun V a W hB hd ho => ?_) ?_
    · obtain ⟨e44, s44⟩ := hd 26 44 (by decide) (by kernel_rfl)
      rw [show V 26 = (.bool true) from s44] at e44
      clear s44
      clear hd ho
      refine ⟨_, 45, rfl, by decide, fun K hK => ?_⟩
      refine value_ (w1 := W) (v := (.bool true)) (by rfl) rfl ?_ (hK _ _ (Below.refl _ _) rfl)
      go_simp
      try rfl
    refine stp_cons (fun V a W hB hd ho => ?_) ?_
    · have e5 := (ho 5 (by decide)).trans (show _ = some (.slice Ax y248.length cx) from rfl)
      obtain ⟨e45, s45⟩ := hd 27 45 (by decide) (by kernel_rfl)
      rw [show V 27 = (.bool true) from s45] at e45
      clear s45
      clear hd ho
      refine ⟨_, 46, rfl, by decide, fun K hK => ?_⟩
      exact value_ (w1 := W) (v := .slice Ax y248.length cx) (wanted_on rfl rfl rfl e45) rfl (by go_simp) (hK _ _ (Below.refl _ _) ⟨_, _, rfl, RB.out.1, Kd.C_below RB.out.2 hB⟩)
    refine stp_cons (fun V a W hB hd ho => ?_) ?_
    · have e6 := (ho 6 (by decide)).trans (show _ = some (.slice Az y251.length cz) from rfl)
      obtain ⟨e45, s45⟩ := hd 27 45 (by decide) (by kernel_rfl)
      rw [show V 27 = (.bool true) from s45] at e45
      clear s45
      clear hd ho
      refine ⟨_, 47, rfl, by decide, fun K hK => ?_⟩
      exact value_ (w1 := W) (v := .slice Az y251.length cz) (wanted_on rfl rfl rfl e45) rfl (by go_simp) (hK _ _ (Below.refl _ _) ⟨_, _, rfl, RC.out.1, Kd.C_below RC.out.2 hB⟩)
    refine stp_cons (fun V a W hB hd ho => ?_) ?_
    · obtain ⟨e46, s46⟩ := hd 28 46 (by decide) (by kernel_rfl)
      obtain ⟨e47, s47⟩ := hd 29 47 (by decide) (by kernel_rfl)
      obtain ⟨e45, s45⟩ := hd 27 45 (by decide) (by kernel_rfl)
      rw [show V 27 = (.bool true) from s45] at e45
      clear s45
      clear hd ho
      refine ⟨_, 48, rfl, by decide, fun K hK => ?_⟩
      obtain ⟨Aq, cq, eq_, hcq, hCq⟩ := s46
      rw [eq_] at e46
      clear eq_
      obtain ⟨Ar, cr, eq_, hcr, hCr⟩ := s47
      rw [eq_] at e47
      clear eq_
      refine value_ (w1 := W.alloc (.cells #[.slice Aq y248.length cq, .slice Ar y251.length cr] 23)) (v := .slice (some ⟨W.heap.size, 0, none⟩) 2 2) (wanted_on rfl rfl rfl e45) rfl ?_ (hK _ _ (below_alloc (Below.refl _ _) _) ⟨_, 2, rfl, Nat.le_refl _, made2 hcq hCq hcr hCr⟩)
      go_simp
      try rfl
    refine stp_cons (fun V a W hB hd ho => ?_) ?_
    · obtain ⟨e48, s48⟩ := hd 30 48 (by decide) (by kernel_rfl)
      obtain ⟨e45, s45⟩ := hd 27 45 (by decide) (by kernel_rfl)
      rw [show V 27 = (.bool true) from s45] at e45
      clear s45
      clear hd ho
      refine ⟨_, 49, rfl, by decide, fun K hK => ?_⟩
      obtain ⟨Aq, cq, eq_, hcq, hCq⟩ := s48
      rw [eq_] at e48
      refine goes_ Try.func12 (by kernel_rfl) rfl #[.slice Aq [y248, y251].length cq] (wanted_on rfl rfl rfl e45) rfl rfl (by simp [Act.eval, e48, e45]) ?_
      refine (digest_Frame.calls k Aq cq [y248, y251] FD W hCq hcq HFD.out).mono ?_
      rintro e w2_ ⟨v, rfl, hR, hb⟩
      exact ⟨_, rfl, hK _ _ hb (holds_R hR)⟩
    refine stp_cons (fun V a W hB hd ho => ?_) ?_
    · obtain ⟨e49, s49⟩ := hd 31 49 (by decide) (by kernel_rfl)
      obtain ⟨e45, s45⟩ := hd 27 45 (by decide) (by kernel_rfl)
      rw [show V 27 = (.bool true) from s45] at e45
      clear s45
      clear hd ho
      refine ⟨_, 50, rfl, by decide, fun K hK => ?_⟩
      obtain ⟨Aq, cq, eq_, hcq, hCq⟩ := s49
      rw [eq_] at e49
      clear eq_
      refine value_ (w1 := W) (v := .int .i64 (FD.length : Int)) (wanted_on rfl rfl rfl e45) rfl ?_ (hK _ _ (Below.refl _ _) rfl)
      go_simp
    refine stp_cons (fun V a W hB hd ho => ?_) ?_
    · have e1 := (ho 1 (by decide)).trans (show _ = some (.int .i64 ji5) from rfl)
      obtain ⟨e45, s45⟩ := hd 27 45 (by decide) (by kernel_rfl)
      rw [show V 27 = (.bool true) from s45] at e45
      clear s45
      clear hd ho
      refine ⟨_, 51, rfl, by decide, fun K hK => ?_⟩
      refine value_ (w1 := W) (v := (.int .i64 ji5)) (wanted_on rfl rfl rfl e45) rfl ?_ (hK _ _ (Below.refl _ _) rfl)
      go_simp
      try rfl
    refine stp_cons (fun V a W hB hd ho => ?_) ?_
    · obtain ⟨e51, s51⟩ := hd 33 51 (by decide) (by kernel_rfl)
      rw [show V 33 = (.int .i64 ji5) from s51] at e51
      clear s51
      obtain ⟨e45, s45⟩ := hd 27 45 (by decide) (by kernel_rfl)
      rw [show V 27 = (.bool true) from s45] at e45
      clear s45
      clear hd ho
      refine ⟨_, 52, rfl, by decide, fun K hK => ?_⟩
      refine value_ (w1 := W) (v := .int .i64 (2 * ji5)) (wanted_on rfl rfl rfl e45) rfl ?_ (hK _ _ (Below.refl _ _) rfl)
      go_simp
      rw [i64_w]
      unfold wrap64
      omega
    refine stp_cons (fun V a W hB hd ho => ?_) ?_
    · obtain ⟨e52, s52⟩ := hd 34 52 (by decide) (by kernel_rfl)
      rw [show V 34 = (.int .i64 (2 * ji5)) from s52] at e52
      clear s52
      obtain ⟨e45, s45⟩ := hd 27 45 (by decide) (by kernel_rfl)
      rw [show V 27 = (.bool true) from s45] at e45
      clear s45
      clear hd ho
      refine ⟨_, 53, rfl, by decide, fun K hK => ?_⟩
      refine value_ (w1 := W) (v := .int .i64 (2 * ji5 + 17)) (wanted_on rfl rfl rfl e45) rfl ?_ (hK _ _ (Below.refl _ _) rfl)
      go_simp
      rw [i64_w]
      unfold wrap64
      omega
    refine stp_cons (fun V a W hB hd ho => ?_) ?_
    · obtain ⟨e50, s50⟩ := hd 32 50 (by decide) (by kernel_rfl)
      rw [show V 32 = (.int .i64 (FD.length : Int)) from s50] at e50
      clear s50
      obtain ⟨e53, s53⟩ := hd 35 53 (by decide) (by kernel_rfl)
      rw [show V 35 = (.int .i64 (2 * ji5 + 17)) from s53] at e53
      clear s53
      obtain ⟨e45, s45⟩ := hd 27 45 (by decide) (by kernel_rfl)
      rw [show V 27 = (.bool true) from s45] at e45
      clear s45
      clear hd ho
      refine ⟨_, 54, rfl, by decide, fun K hK => ?_⟩
      have hl := HLN.out
      refine value_ (w1 := W) (v := .bool true) (wanted_on rfl rfl rfl e45) rfl ?_ (hK _ _ (Below.refl _ _) rfl)
      go_simp
    refine stp_cons (fun V a W hB hd ho => ?_) ?_
    · obtain ⟨e45, s45⟩ := hd 27 45 (by decide) (by kernel_rfl)
      rw [show V 27 = (.bool true) from s45] at e45
      clear s45
      obtain ⟨e54, s54⟩ := hd 36 54 (by decide) (by kernel_rfl)
      rw [show V 36 = (.bool true) from s54] at e54
      clear s54
      clear hd ho
      refine ⟨_, 55, rfl, by decide, fun K hK => ?_⟩
      refine value_ (w1 := W) (v := (.bool true)) (by rfl) rfl ?_ (hK _ _ (Below.refl _ _) rfl)
      go_simp
      try rfl
    refine stp_cons (fun V a W hB hd ho => ?_) ?_
    · obtain ⟨e55, s55⟩ := hd 37 55 (by decide) (by kernel_rfl)
      rw [show V 37 = (.bool true) from s55] at e55
      clear s55
      clear hd ho
      refine ⟨_, 4, rfl, by decide, fun K hK => ?_⟩
      refine value_ (w1 := W) (v := (.bool true)) (by rfl) rfl ?_ (hK _ _ (Below.refl _ _) rfl)
      go_simp
      try rfl
    exact stp_nil
  · intro V Wend HBr_ HV_
    have HV := fun i t hm => HV_ (i, t) hm
    clear HV_
    have v38 : V 38 = .bool true := HV 38 4 (by decide)
    clear HV
    have HB2 := Aside0.mk (below_step HB.out HBr_)
    simp only [putSel, Lof, List.map_cons, List.map_nil, if_true, Act.put, List.setIfInBounds_toArray, List.set_cons_zero, List.set_cons_succ]
    rw [v38]
    go_wp2
    go_ret
    exact ⟨rfl, HB2.out⟩
theorem last_ne (m : Nat) : (strOfNums (frameOf [List.replicate m 0])).toList ≠ (strOfNums (frameOf [List.replicate (m + 1) 0])).toList := by
  intro h
  have h2 := congrArg List.length h
  rw [Lib.strOfNums_toList, Lib.strOfNums_toList, Lib.bytesOf_length, Lib.bytesOf_length] at h2
  simp [frameOf, be8] at h2
theorem tm_bd (n : Int) : -300 < Int.tmod n 300 ∧ Int.tmod n 300 < 300 := by
  rcases Int.le_total 0 n with h | h
  · rw [Int.tmod_eq_emod_of_nonneg h]; omega
  · obtain ⟨m, rfl⟩ : ∃ m : Int, n = -m := ⟨-n, by omega⟩
    rw [Int.neg_tmod, Int.tmod_eq_emod_of_nonneg (by omega)]; omega
theorem walk (k0 n : Int) (w : World) (w0 : (Lit.int .u64 k0).wf = true) (w1 : (Lit.int .i64 n).wf = true) :
    Calls Try.prog 6 #[.int .u64 k0, .int .i64 n] w fun e w' => e = .returned (.bool true) ∧ Below w.heap.size w w' := by
  have hb := tm_bd n
  have e1 : wrap64 (Int.tmod n 300 + 300) = Int.tmod n 300 + 300 := w64 (by omega) (by omega)
  obtain ⟨m, hm⟩ : ∃ m : Nat, Int.tmod (wrap64 (Int.tmod n 300 + 300)) 300 = (m : Int) := by
    rw [e1, Int.tmod_eq_emod_of_nonneg (by omega)]
    exact ⟨((Int.tmod n 300 + 300) % 300).toNat, by omega⟩
  have hm3 : m < 300 := by
    rw [e1, Int.tmod_eq_emod_of_nonneg (by omega)] at hm
    omega
  have e8 : wrap64 ((m : Int) + 1) = ((m + 1 : Nat) : Int) := by rw [w64 (by omega) (by omega)]; omega
  have lB : (List.replicate m (0 : Int)).length = m := by simp
  have lC : (List.replicate (m + 1) (0 : Int)).length = m + 1 := by simp
  have fB : (frameOf [List.replicate m (0 : Int)]).length = 8 + m := by simp [frameOf, be8]; omega
  have fC : (frameOf [List.replicate (m + 1) (0 : Int)]).length = 9 + m := by simp [frameOf, be8]; omega
  have fD : (frameOf [List.replicate m (0 : Int), List.replicate (m + 1) (0 : Int)]).length = 2 * m + 17 := by simp [frameOf, be8]; omega
  obtain ⟨k1, h1⟩ := awake_ev
  obtain ⟨k2, h2⟩ := rsum_ev (List.replicate m (0 : Int)) (by omega) k0 0
  obtain ⟨k3, h3⟩ := rsum_ev (List.replicate (m + 1) (0 : Int)) (by omega) k0 0
  obtain ⟨k4, h4⟩ := frame_ev [List.replicate m (0 : Int)] (by simp) (by omega)
  obtain ⟨k5, h5⟩ := frame_ev [List.replicate (m + 1) (0 : Int)] (by simp) (by omega)
  obtain ⟨k6, h6⟩ := frame_ev [List.replicate m (0 : Int), List.replicate (m + 1) (0 : Int)] (by simp) (by omega)
  have hk : ∀ k0, k1 + k2 + k3 + k4 + k5 + k6 = k0 → k1 ≤ k0 ∧ k2 ≤ k0 ∧ k3 ≤ k0 ∧ k4 ≤ k0 ∧ k5 ≤ k0 ∧ k6 ≤ k0 := by omega
  obtain ⟨g1, g2, g3, g4, g5, g6⟩ := hk _ rfl
  have hz : ((m : Int) : Int).toNat = m := by omega
  have hz2 : (((m + 1 : Nat) : Int) : Int).toNat = m + 1 := by omega
  exact walk0 (k1 + k2 + k3 + k4 + k5 + k6) k0 n m ((m + 1 : Nat) : Int) _ _ (List.replicate m 0) (List.replicate (m + 1) 0) _ _ _ w ⟨h1 _ g1⟩ hm e8 ((i64_w _).trans e8) (by omega) (decide_eq_true (by omega)) (by omega) (decide_eq_true (by omega)) (by omega) ⟨by rw [hz]⟩ ⟨by rw [hz2]⟩
    ⟨sum_f _ (by omega) k0 0⟩ ⟨h2 _ g2⟩ ⟨sum_f _ (by omega) k0 0⟩ ⟨h3 _ g3⟩ ⟨h4 _ g4⟩ ⟨h5 _ g5⟩ ⟨h6 _ g6⟩ ⟨last_ne m⟩ ⟨by rw [fD]; omega⟩
end Go.Proofs.Ytedpmohnnagamaa.WalkLengths
