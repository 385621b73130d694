/- DigestFrame's walk: where all that it calls answers, it returns true, for every two lists of fields. -/
import Derived.Test.YtedpmohnnagamaaPureHash
import Derived.Test.YtedpmohnnagamaaFree
namespace Go.Proofs.Ytedpmohnnagamaa.WalkFrame
open Go.RowKit Go.Proofs.Ytedpmohnnagamaa.Print Go.Proofs.Ytedpmohnnagamaa.Free Go.Proofs.Ytedpmohnnagamaa.PureDig Go.Proofs.Ytedpmohnnagamaa.PureHash Go.Proofs.YtedpmohnnagamaaW.PrintWords Go.Proofs.YtedpmohnnagamaaW.PrintLast Go.Proofs.YtedpmohnnagamaaW.PrintMore
attribute [local go_sem] max2_int min2_int max_two min_two max_three min_three max_four min_four
set_option linter.unusedVariables false
set_option linter.unusedSimpArgs false
def fr.T6 : Bool × List (List Nat × List Nat) := (true, [([], []), ([0], [0]), ([], []), ([2], [2]), ([3], [3]), ([1, 4], [1, 4]), ([5, 3], [5]), ([6], [6]), ([7, 6, 6], [6, 7]), ([8, 6], [6, 8]), ([6], [6]), ([10, 6], [6, 10]), ([6], [6]), ([12, 8, 6], [6, 12]), ([13, 6], [6, 13]), ([11, 14, 6], [6, 11, 14]), ([9, 15, 6], [6, 9, 15]), ([6, 16], [6, 16]), ([17, 13, 0, 1, 2, 3, 4, 5, 6, 7, 8, 9, 10, 11, 12, 13, 14, 15, 16, 17], [17])])
def fr.B6 : List Nat := [0, 1, 0, 4, 12, 31, 63, 127, 255, 511, 127, 1151, 127, 4607, 12799, 32255, 65535, 131071, 262143]
theorem fr.tab6 : rtab .any (opsOf Try.f4 6) = fr.T6 := by kernel_rfl
theorem fr.bits6 : waitsOk fr.T6.2 fr.B6 = true := by kernel_rfl
set_option maxHeartbeats 8000000 in
set_option maxRecDepth 100000 in
theorem walk0 (k : Nat) (A0 : Option Addr) (c0 : Nat) (l0 : List (List Int)) (A1 : Option Addr) (c1 : Nat) (l1 : List (List Int)) (t191 t194 : List (List Int)) (FA FB FL : List Int) (w : World) (hr0 : Kd.C (Kd.slice 5 (Kd.int .u8)) w A0 l0.length l0) (hc0 : l0.length ≤ c0) (hr1 : Kd.C (Kd.slice 5 (Kd.int .u8)) w A1 l1.length l1) (hc1 : l1.length ≤ c1)
    (A3 : Aside0 (flagstonelaw2_awake.f k = some true)) (A5 : Aside0 (flagstonelaw2_cut.f k l0 = some t191)) (A6 : Aside0 (flagstonelaw2_cut.f k l1 = some t194)) (LMc7 : Aside0 (([] : List (List Int)).length + t191.length < 5864062014805)) (LMc80 : Aside0 ((([] : List (List Int)) ++ t191).length + t194.length < 5864062014805))
    (A9 : Aside0 (digest_Frame.f k t191 = some FA)) (HRF : Aside0 (flagstoneref2_Frame.f k t191 = some FA)) (HFL0 : Aside0 (digest_Frame.f k (t191 ++ t194) = some FL)) (HFB : Aside0 (digest_Frame.f k t194 = some FB)) (HSL : Aside0 (strOfNums FL = strOfNums FA ++ strOfNums FB)) (HSZ : Aside0 ((strOfNums FA).size + (strOfNums FB).size ≤ 9223372036854775807)) :
    Calls Try.prog 4 #[.slice A0 l0.length c0, .slice A1 l1.length c1] w fun e w' => e = .returned (.bool true) ∧ Below w.heap.size w w' := by
  have HR0 := Aside0.mk hr0
  have HC0 := Aside0.mk hc0
  have HR1 := Aside0.mk hr1
  have HC1 := Aside0.mk hc1
  clear hr0 hc0 hr1 hc1
  have HB := Aside0.mk (Below.refl w.heap.size w)
  obtain ⟨y197, hy197⟩ : ∃ y_ : List (List Int), y_ = (([] : List (List Int)) ++ t191) := ⟨_, rfl⟩
  have Ny197 := Aside0.mk hy197
  have LMc8 : Aside0 (y197.length + t194.length < 5864062014805) := ⟨by rw [hy197]; exact LMc80.out⟩
  clear hy197
  obtain ⟨y200, hy200⟩ : ∃ y_ : List (List Int), y_ = (y197 ++ t194) := ⟨_, rfl⟩
  have Ny200 := Aside0.mk hy200
  have HFL : Aside0 (digest_Frame.f k y200 = some FL) := ⟨by rw [hy200, Ny197.out]; exact HFL0.out⟩
  clear hy200
  go_enter Try.func4, Try.ntmps4
  go_wp2_with (first | ((with_reducible refine gate_callee (f := 8) rfl ?_); refine goesL_ (some 7) rfl rfl Try.func8 (by kernel_rfl) rfl #[] rfl (by (try simp only [List.map_toArray, List.map_cons, List.map_nil]); first | done | rfl | (simp only [List.length_drop, List.length_take]; rfl)) ?_; (with_reducible refine (flagstonelaw2_awake.calls k  true _ A3.out).mono ?_); rintro e w10 ⟨rfl, hb⟩; refine ⟨_, rfl, ?_⟩; have n0_ := Aside0.mk (below_step (by repeat (first | (with_reducible first | exact HB.out | apply below_alloc | apply pw_below_drewN | apply below_drew1) | exact HB.out)) hb); clear HB; have HB := n0_; clear n0_; (try clear hb); (try clear hb2); (try clear hk); (try clear hi)) | ((with_reducible refine gate_callee (f := 11) rfl ?_); refine goesL_ (some 10) rfl rfl Try.func11 (by kernel_rfl) rfl #[.slice A0 l0.length c0] rfl (by (try simp only [List.map_toArray, List.map_cons, List.map_nil]); first | done | rfl | (simp only [List.length_drop, List.length_take]; rfl)) ?_; (with_reducible refine (flagstonelaw2_cut.calls k (fun k_ => k_ < w.heap.size) _ _ l0 t191 _ ?side1 A5.out).mono ?_); (case side1 => exact Kd.V_mk HC0.out (Kd.F_below (Kd.C_F (Kd.heap_slice 5 (Kd.heap_int .u8)) HR0.out) (by repeat (first | (with_reducible first | exact HB.out | apply below_alloc | apply pw_below_drewN | apply below_drew1) | exact HB.out)))); rintro e w11 ⟨v192, rfl, ho0, hb⟩; refine ⟨_, rfl, ?_⟩; have n0_ := Aside0.mk (Kd.N_lower (Kd.N_mono (ok' := fun k_ => True) ho0 (fun k_ hk_ => trivial)) (below_size (by repeat (first | (with_reducible first | exact HB.out | apply below_alloc | apply pw_below_drewN | apply below_drew1) | exact HB.out)))); have n1_ := Aside0.mk (below_step (by repeat (first | (with_reducible first | exact HB.out | apply below_alloc | apply pw_below_drewN | apply below_drew1) | exact HB.out)) hb); clear HB; have HO193 := n0_; have HB := n1_; clear n0_ n1_; (try clear hb); (try clear hb2); (try clear hk); (try clear hi); (try clear ho0)) | ((with_reducible refine gate_callee (f := 11) rfl ?_); refine goesL_ (some 12) rfl rfl Try.func11 (by kernel_rfl) rfl #[.slice A1 l1.length c1] rfl (by (try simp only [List.map_toArray, List.map_cons, List.map_nil]); first | done | rfl | (simp only [List.length_drop, List.length_take]; rfl)) ?_; (with_reducible refine (flagstonelaw2_cut.calls k (fun k_ => k_ < w.heap.size) _ _ l1 t194 _ ?side1 A6.out).mono ?_); (case side1 => exact Kd.V_mk HC1.out (Kd.F_below (Kd.C_F (Kd.heap_slice 5 (Kd.heap_int .u8)) HR1.out) (by repeat (first | (with_reducible first | exact HB.out | apply below_alloc | apply pw_below_drewN | apply below_drew1) | exact HB.out)))); rintro e w12 ⟨v195, rfl, ho0, hb⟩; refine ⟨_, rfl, ?_⟩; have n0_ := Aside0.mk (Kd.N_elder' (by (with_reducible repeat (first | apply Kd.N_alloc | apply Kd.N_drewN | apply Kd.N_drew)); exact HO193.out) (Kd.N_base ho0) hb); have n1_ := Aside0.mk (Kd.N_lower (Kd.N_mono (ok' := fun k_ => some k_ ≠ (v192 : Value).ownBlock) ho0 (fun k_ hk_ => Or.elim hk_ (fun hs_ => fun e_ => Nat.not_le.2 hs_ (Kd.N_base HO193.out k_ e_.symm)) (fun hn_ => (Kd.fresh' (Kd.N_lt (by (with_reducible repeat (first | apply Kd.N_alloc | apply Kd.N_drewN | apply Kd.N_drew)); exact HO193.out)) k_ hn_)))) (below_size (by repeat (first | (with_reducible first | exact HB.out | apply below_alloc | apply pw_below_drewN | apply below_drew1) | exact HB.out)))); have n2_ := Aside0.mk (below_step (by repeat (first | (with_reducible first | exact HB.out | apply below_alloc | apply pw_below_drewN | apply below_drew1) | exact HB.out)) hb); clear HO193; clear HB; have HO193 := n0_; have HO196 := n1_; have HB := n2_; clear n0_ n1_ n2_; (try clear hb); (try clear hb2); (try clear hk); (try clear hi); (try clear ho0); obtain ⟨Ao14, co14, eo14⟩ := Kd.N_slice HO193.out; subst eo14) | ((with_reducible refine gate_builtin (b := .append) (xs := #[.const (.slice none 0 0), .tmp 13]) rfl ?_); at_builtin; refine Kd.N_append_rows (Kd.slice 5 (Kd.int .u8)) (w0 := w) w.heap.size rfl (.const (.slice none 0 0)) (.tmp 13) 27 23 (.slice none 0 0) 24 rfl Try.underlying27 info23 rfl (by decide) (by omega) (.slice none 0 0) ([] : List (List Int)) t191 _ _ _ (fun k_ => some k_ ≠ (v195 : Value).ownBlock) (fun k_ => ((fun k_ => some k_ ≠ (v195 : Value).ownBlock)) k_ ∧ some k_ ≠ (.slice none 0 0 : Value).ownBlock) rfl rfl ?aO ?aR (fun _ hk => hk) ?aF ?aB ?aS ?aL ?_; (case aR => exact (by skip; exact Kd.N_F (Kd.N_mono (ok' := (fun k_ => ((fun k_ => some k_ ≠ (v195 : Value).ownBlock)) k_ ∧ some k_ ≠ (.slice none 0 0 : Value).ownBlock)) (HO193.out) (fun k_ hk => ⟨hk.2, (by simp [Value.ownBlock])⟩)))); (case aB => exact (by repeat (first | (with_reducible first | exact HB.out | apply below_alloc | apply pw_below_drewN | apply below_drew1) | exact HB.out))); (case aF => exact (fun k_ hk => Kd.fresh' (Kd.N_lt (by (with_reducible repeat (first | apply Kd.N_alloc | apply Kd.N_drewN | apply Kd.N_drew)); exact HO196.out)) k_ hk)); (case aO => exact ((Kd.N_nil _ _ _ _ (fun k_ => some k_ ≠ (v195 : Value).ownBlock)))); (case aS => exact (below_size (by repeat (first | (with_reducible first | exact HB.out | apply below_alloc | apply pw_below_drewN | apply below_drew1) | exact HB.out)))); (case aL => have := LMc7.out; omega); intro v198 w13 ho hb hg hat; rw [← Ny197.out] at ho; have n0_ := Aside0.mk (Kd.N_afterv (Kd.N_apart_nil (by (with_reducible repeat (first | apply Kd.N_alloc | apply Kd.N_drewN | apply Kd.N_drew)); exact HO193.out)) hg hat); have n1_ := Aside0.mk (Kd.N_afterv (Kd.N_apart_nil (by (with_reducible repeat (first | apply Kd.N_alloc | apply Kd.N_drewN | apply Kd.N_drew)); exact HO196.out)) hg hat); have n2_ := Aside0.mk (hb); have n3_ := Aside0.mk (ho); clear HO193; clear HO196; clear HB; have HO193 := n0_; have HO196 := n1_; have HB := n2_; have HO199 := n3_; clear n0_ n1_ n2_ n3_; clear ho hb hg hat; obtain ⟨Ao16, co16, eo16⟩ := Kd.N_slice HO196.out; subst eo16) | ((with_reducible refine gate_builtin (b := .append) (xs := #[.tmp 14, .tmp 15]) rfl ?_); at_builtin; refine Kd.N_append_rows (Kd.slice 5 (Kd.int .u8)) (w0 := w) w.heap.size rfl (.tmp 14) (.tmp 15) 27 23 (.slice none 0 0) 24 rfl Try.underlying27 info23 rfl (by decide) (by omega) v198 y197 t194 _ _ _ (fun _ => True) (fun k_ => ((fun _ => True)) k_ ∧ some k_ ≠ (v198 : Value).ownBlock) rfl rfl ?aO ?aR (fun _ hk => hk) ?aF ?aB ?aS ?aL ?_; (case aR => exact (by skip; exact Kd.N_F (Kd.N_mono (ok' := (fun k_ => ((fun _ => True)) k_ ∧ some k_ ≠ (v198 : Value).ownBlock)) (HO196.out) (fun k_ hk => ⟨trivial, hk.2⟩)))); (case aB => exact (by repeat (first | (with_reducible first | exact HB.out | apply below_alloc | apply pw_below_drewN | apply below_drew1) | exact HB.out))); (case aF => exact (fun _ _ => trivial)); (case aO => exact (by (with_reducible repeat (first | apply Kd.N_alloc | apply Kd.N_drewN | apply Kd.N_drew)); exact Kd.N_mono HO199.out (fun _ hk => trivial))); (case aS => exact (below_size (by repeat (first | (with_reducible first | exact HB.out | apply below_alloc | apply pw_below_drewN | apply below_drew1) | exact HB.out)))); (case aL => have := LMc8.out; omega); intro v201 w15 ho hb hg hat; rw [← Ny200.out] at ho; have n0_ := Aside0.mk (Kd.N_afterv (ok := (fun k_ => some k_ ≠ (.slice Ao16 t194.length co16 : Value).ownBlock)) (by (with_reducible repeat (first | apply Kd.N_alloc | apply Kd.N_drewN | apply Kd.N_drew)); exact Kd.N_mono HO193.out (fun _ hk => ⟨hk.1.2, hk.2⟩)) hg hat); have n1_ := Aside0.mk (Kd.N_afterv (ok := (fun k_ => some k_ ≠ (.slice Ao14 t191.length co14 : Value).ownBlock)) (by (with_reducible repeat (first | apply Kd.N_alloc | apply Kd.N_drewN | apply Kd.N_drew)); exact HO196.out) hg hat); have n2_ := Aside0.mk (hb); have n3_ := Aside0.mk (ho); clear HO193; clear HO196; clear HB; clear HO199; have HO193 := n0_; have HO196 := n1_; have HB := n2_; have HO202 := n3_; clear n0_ n1_ n2_ n3_; clear ho hb hg hat) | ((with_reducible refine gate_callee (f := 12) rfl ?_); refine goesL_ (some 18) rfl rfl Try.func12 (by kernel_rfl) rfl #[.slice Ao14 t191.length co14] rfl (by (try simp only [List.map_toArray, List.map_cons, List.map_nil]); first | done | rfl | (simp only [List.length_drop, List.length_take]; rfl)) ?_; (with_reducible refine (digest_Frame.calls k _ _ t191 FA _ ?side1 ?side2 A9.out).mono ?_); (case side1 => repeat (first | exact (Kd.N_reads' HO193.out).2.2 | (with_reducible refine Kd.C_alloc ?_ _) | (with_reducible refine Kd.C_drewN ?_ _) | (with_reducible refine Kd.C_drew ?_))); (case side2 => exact (Kd.N_reads' HO193.out).2.1); rintro e w17 ⟨v204, rfl, ho0, hb⟩; refine ⟨_, rfl, ?_⟩; have n0_ := Aside0.mk (Kd.N_elder' (by (with_reducible repeat (first | apply Kd.N_alloc | apply Kd.N_drewN | apply Kd.N_drew)); exact HO193.out) (Kd.R_base ho0) hb); have n1_ := Aside0.mk (Kd.N_elder' (by (with_reducible repeat (first | apply Kd.N_alloc | apply Kd.N_drewN | apply Kd.N_drew)); exact HO196.out) (Kd.R_base ho0) hb); have n2_ := Aside0.mk (Kd.N_elder' (by (with_reducible repeat (first | apply Kd.N_alloc | apply Kd.N_drewN | apply Kd.N_drew)); exact HO202.out) (Kd.R_base ho0) hb); have n3_ := Aside0.mk (Kd.R_lower ho0 (below_size (by repeat (first | (with_reducible first | exact HB.out | apply below_alloc | apply pw_below_drewN | apply below_drew1) | exact HB.out)))); have n4_ := Aside0.mk (below_step (by repeat (first | (with_reducible first | exact HB.out | apply below_alloc | apply pw_below_drewN | apply below_drew1) | exact HB.out)) hb); clear HO193; clear HO196; clear HO202; clear HB; have HO193 := n0_; have HO196 := n1_; have HO202 := n2_; have HO205 := n3_; have HB := n4_; clear n0_ n1_ n2_ n3_ n4_; (try clear hb); (try clear hb2); (try clear hk); (try clear hi); (try clear ho0)))
  obtain ⟨Ay, cy, e1⟩ := Kd.N_slice HO202.out
  subst e1
  obtain ⟨Af, cf, e1⟩ := Kd.R_slice HO205.out
  subst e1
  have RA := Aside0.mk (Kd.N_reads' HO193.out).2
  have RB := Aside0.mk (Kd.N_reads' HO196.out).2
  have RY := Aside0.mk (Kd.N_reads' HO202.out).2
  have RF := Aside0.mk (Kd.R_reads' HO205.out).2
  clear HO193 HO196 HO202 HO205
  refine free_ (n := 19) (T := fr.T6) (B := fr.B6) (ent := [(0, 19), (1, 20), (2, 21), (3, 22), (4, 23), (5, 24), (6, 25), (7, 26), (8, 27), (9, 28), (10, 29), (11, 30), (12, 31), (13, 32), (14, 33), (15, 34), (16, 35), (17, 36), (18, 4)]) (F := fun i v w_ => (([(.cs FA), (.val (.string (strOfNums FA))), (.css 5 t191), (.cs FA), (.val (.string (strOfNums FA))), (.val (.bool true)), (.val (.bool true)), (.css 5 y200), (.cs FL), (.val (.string (strOfNums FL))), (.cs FA), (.val (.string (strOfNums FA))), (.css 5 t194), (.cs FB), (.val (.string (strOfNums FB))), (.val (.string (strOfNums FL))), (.val (.bool true)), (.val (.bool true)), (.val (.bool true))] : List Tells).getD i (.val undef)).holds v w_) [0, 1, 2, 3, 4, 5, 6, 7, 8, 9, 10, 11, 12, 13, 14, 15, 16, 17, 18] (by kernel_rfl) rfl fr.tab6 fr.bits6 (by kernel_rfl) (by kernel_rfl) (by decide) (by decide) (by decide) rfl (fun i v w_ w2_ h_ hb_ => Tells.keep h_ hb_) (below_drew1 (Below.refl _ _)) ?_ ?_
  · skip
    refine stp_cons (fun V a W hB hd ho => ?_) ?_
    · have e6 := (ho 6 (by decide)).trans (show _ = some (.slice Af FA.length cf) from rfl)
      clear hd ho
      refine ⟨_, 19, rfl, by decide, fun K hK => ?_⟩
      exact value_ (w1 := W) (v := .slice Af FA.length cf) (by rfl) rfl (by go_simp) (hK _ _ (Below.refl _ _) ⟨_, _, rfl, RF.out.1, Kd.C_below RF.out.2 hB⟩)
    refine stp_cons (fun V a W hB hd ho => ?_) ?_
    · obtain ⟨e19, s19⟩ := hd 0 19 (by decide) (by kernel_rfl)
      clear hd ho
      refine ⟨_, 20, rfl, by decide, fun K hK => ?_⟩
      obtain ⟨Aq, cq, eq_, hcq, hCq⟩ := s19
      rw [eq_] at e19
      have hcv := Kd.C_string (P := Try.prog) (A := Aq) (c := cq) Try.underlying23 Try.underlying5 Try.underlying9 hCq
      clear eq_
      refine value_ (w1 := W) (v := .string (strOfNums FA)) (by rfl) rfl ?_ (hK _ _ (Below.refl _ _) rfl)
      go_simp
      try (constructor <;> rfl)
    refine stp_cons (fun V a W hB hd ho => ?_) ?_
    · have e0 := (ho 0 (by decide)).trans (show _ = some (.slice Ao14 t191.length co14) from rfl)
      clear hd ho
      refine ⟨_, 21, rfl, by decide, fun K hK => ?_⟩
      exact value_ (w1 := W) (v := .slice Ao14 t191.length co14) (by rfl) rfl (by go_simp) (hK _ _ (Below.refl _ _) ⟨_, _, rfl, RA.out.1, Kd.C_below RA.out.2 hB⟩)
    refine stp_cons (fun V a W hB hd ho => ?_) ?_
    · obtain ⟨e21, s21⟩ := hd 2 21 (by decide) (by kernel_rfl)
      clear hd ho
      refine ⟨_, 22, rfl, by decide, fun K hK => ?_⟩
      obtain ⟨Aq, cq, eq_, hcq, hCq⟩ := s21
      rw [eq_] at e21
      refine goes_ Try.func13 (by kernel_rfl) rfl #[.slice Aq t191.length cq] (by rfl) rfl rfl (by simp [Act.eval, e21]) ?_
      refine (flagstoneref2_Frame.calls k Aq cq t191 FA W hCq hcq HRF.out).mono ?_
      rintro e w2_ ⟨v, rfl, hR, hb⟩
      exact ⟨_, rfl, hK _ _ hb (holds_R hR)⟩
    refine stp_cons (fun V a W hB hd ho => ?_) ?_
    · obtain ⟨e22, s22⟩ := hd 3 22 (by decide) (by kernel_rfl)
      clear hd ho
      refine ⟨_, 23, rfl, by decide, fun K hK => ?_⟩
      obtain ⟨Aq, cq, eq_, hcq, hCq⟩ := s22
      rw [eq_] at e22
      have hcv := Kd.C_string (P := Try.prog) (A := Aq) (c := cq) Try.underlying23 Try.underlying5 Try.underlying9 hCq
      clear eq_
      refine value_ (w1 := W) (v := .string (strOfNums FA)) (by rfl) rfl ?_ (hK _ _ (Below.refl _ _) rfl)
      go_simp
      try (constructor <;> rfl)
    refine stp_cons (fun V a W hB hd ho => ?_) ?_
    · obtain ⟨e20, s20⟩ := hd 1 20 (by decide) (by kernel_rfl)
      rw [show V 1 = (.string (strOfNums FA)) from s20] at e20
      clear s20
      obtain ⟨e23, s23⟩ := hd 4 23 (by decide) (by kernel_rfl)
      rw [show V 4 = (.string (strOfNums FA)) from s23] at e23
      clear s23
      clear hd ho
      refine ⟨_, 24, rfl, by decide, fun K hK => ?_⟩
      refine value_ (w1 := W) (v := (.bool true)) (by rfl) rfl ?_ (hK _ _ (Below.refl _ _) rfl)
      go_simp
      try rfl
    refine stp_cons (fun V a W hB hd ho => ?_) ?_
    · obtain ⟨e24, s24⟩ := hd 5 24 (by decide) (by kernel_rfl)
      rw [show V 5 = (.bool true) from s24] at e24
      clear s24
      clear hd ho
      refine ⟨_, 25, rfl, by decide, fun K hK => ?_⟩
      refine value_ (w1 := W) (v := (.bool true)) (by rfl) rfl ?_ (hK _ _ (Below.refl _ _) rfl)
      go_simp
      try rfl
    refine stp_cons (fun V a W hB hd ho => ?_) ?_
    · have e5 := (ho 5 (by decide)).trans (show _ = some (.slice Ay y200.length cy) from rfl)
      obtain ⟨e25, s25⟩ := hd 6 25 (by decide) (by kernel_rfl)
      rw [show V 6 = (.bool true) from s25] at e25
      clear s25
      clear hd ho
      refine ⟨_, 26, rfl, by decide, fun K hK => ?_⟩
      exact value_ (w1 := W) (v := .slice Ay y200.length cy) (wanted_on rfl rfl rfl e25) rfl (by go_simp) (hK _ _ (Below.refl _ _) ⟨_, _, rfl, RY.out.1, Kd.C_below RY.out.2 hB⟩)
    refine stp_cons (fun V a W hB hd ho => ?_) ?_
    · obtain ⟨e26, s26⟩ := hd 7 26 (by decide) (by kernel_rfl)
      obtain ⟨e25, s25⟩ := hd 6 25 (by decide) (by kernel_rfl)
      rw [show V 6 = (.bool true) from s25] at e25
      clear s25
      clear hd ho
      refine ⟨_, 27, rfl, by decide, fun K hK => ?_⟩
      obtain ⟨Aq, cq, eq_, hcq, hCq⟩ := s26
      rw [eq_] at e26
      refine goes_ Try.func12 (by kernel_rfl) rfl #[.slice Aq y200.length cq] (wanted_on rfl rfl rfl e25) rfl rfl (by simp [Act.eval, e26, e25]) ?_
      refine (digest_Frame.calls k Aq cq y200 FL W hCq hcq HFL.out).mono ?_
      rintro e w2_ ⟨v, rfl, hR, hb⟩
      exact ⟨_, rfl, hK _ _ hb (holds_R hR)⟩
    refine stp_cons (fun V a W hB hd ho => ?_) ?_
    · obtain ⟨e27, s27⟩ := hd 8 27 (by decide) (by kernel_rfl)
      obtain ⟨e25, s25⟩ := hd 6 25 (by decide) (by kernel_rfl)
      rw [show V 6 = (.bool true) from s25] at e25
      clear s25
      clear hd ho
      refine ⟨_, 28, rfl, by decide, fun K hK => ?_⟩
      obtain ⟨Aq, cq, eq_, hcq, hCq⟩ := s27
      rw [eq_] at e27
      have hcv := Kd.C_string (P := Try.prog) (A := Aq) (c := cq) Try.underlying23 Try.underlying5 Try.underlying9 hCq
      clear eq_
      refine value_ (w1 := W) (v := .string (strOfNums FL)) (wanted_on rfl rfl rfl e25) rfl ?_ (hK _ _ (Below.refl _ _) rfl)
      go_simp
      try (constructor <;> rfl)
    refine stp_cons (fun V a W hB hd ho => ?_) ?_
    · have e6 := (ho 6 (by decide)).trans (show _ = some (.slice Af FA.length cf) from rfl)
      obtain ⟨e25, s25⟩ := hd 6 25 (by decide) (by kernel_rfl)
      rw [show V 6 = (.bool true) from s25] at e25
      clear s25
      clear hd ho
      refine ⟨_, 29, rfl, by decide, fun K hK => ?_⟩
      exact value_ (w1 := W) (v := .slice Af FA.length cf) (wanted_on rfl rfl rfl e25) rfl (by go_simp) (hK _ _ (Below.refl _ _) ⟨_, _, rfl, RF.out.1, Kd.C_below RF.out.2 hB⟩)
    refine stp_cons (fun V a W hB hd ho => ?_) ?_
    · obtain ⟨e29, s29⟩ := hd 10 29 (by decide) (by kernel_rfl)
      obtain ⟨e25, s25⟩ := hd 6 25 (by decide) (by kernel_rfl)
      rw [show V 6 = (.bool true) from s25] at e25
      clear s25
      clear hd ho
      refine ⟨_, 30, rfl, by decide, fun K hK => ?_⟩
      obtain ⟨Aq, cq, eq_, hcq, hCq⟩ := s29
      rw [eq_] at e29
      have hcv := Kd.C_string (P := Try.prog) (A := Aq) (c := cq) Try.underlying23 Try.underlying5 Try.underlying9 hCq
      clear eq_
      refine value_ (w1 := W) (v := .string (strOfNums FA)) (wanted_on rfl rfl rfl e25) rfl ?_ (hK _ _ (Below.refl _ _) rfl)
      go_simp
      try (constructor <;> rfl)
    refine stp_cons (fun V a W hB hd ho => ?_) ?_
    · have e1 := (ho 1 (by decide)).trans (show _ = some (.slice Ao16 t194.length co16) from rfl)
      obtain ⟨e25, s25⟩ := hd 6 25 (by decide) (by kernel_rfl)
      rw [show V 6 = (.bool true) from s25] at e25
      clear s25
      clear hd ho
      refine ⟨_, 31, rfl, by decide, fun K hK => ?_⟩
      exact value_ (w1 := W) (v := .slice Ao16 t194.length co16) (wanted_on rfl rfl rfl e25) rfl (by go_simp) (hK _ _ (Below.refl _ _) ⟨_, _, rfl, RB.out.1, Kd.C_below RB.out.2 hB⟩)
    refine stp_cons (fun V a W hB hd ho => ?_) ?_
    · obtain ⟨e31, s31⟩ := hd 12 31 (by decide) (by kernel_rfl)
      obtain ⟨e25, s25⟩ := hd 6 25 (by decide) (by kernel_rfl)
      rw [show V 6 = (.bool true) from s25] at e25
      clear s25
      clear hd ho
      refine ⟨_, 32, rfl, by decide, fun K hK => ?_⟩
      obtain ⟨Aq, cq, eq_, hcq, hCq⟩ := s31
      rw [eq_] at e31
      refine goes_ Try.func12 (by kernel_rfl) rfl #[.slice Aq t194.length cq] (wanted_on rfl rfl rfl e25) rfl rfl (by simp [Act.eval, e31, e25]) ?_
      refine (digest_Frame.calls k Aq cq t194 FB W hCq hcq HFB.out).mono ?_
      rintro e w2_ ⟨v, rfl, hR, hb⟩
      exact ⟨_, rfl, hK _ _ hb (holds_R hR)⟩
    refine stp_cons (fun V a W hB hd ho => ?_) ?_
    · obtain ⟨e32, s32⟩ := hd 13 32 (by decide) (by kernel_rfl)
      obtain ⟨e25, s25⟩ := hd 6 25 (by decide) (by kernel_rfl)
      rw [show V 6 = (.bool true) from s25] at e25
      clear s25
      clear hd ho
      refine ⟨_, 33, rfl, by decide, fun K hK => ?_⟩
      obtain ⟨Aq, cq, eq_, hcq, hCq⟩ := s32
      rw [eq_] at e32
      have hcv := Kd.C_string (P := Try.prog) (A := Aq) (c := cq) Try.underlying23 Try.underlying5 Try.underlying9 hCq
      clear eq_
      refine value_ (w1 := W) (v := .string (strOfNums FB)) (wanted_on rfl rfl rfl e25) rfl ?_ (hK _ _ (Below.refl _ _) rfl)
      go_simp
      try (constructor <;> rfl)
    refine stp_cons (fun V a W hB hd ho => ?_) ?_
    · obtain ⟨e30, s30⟩ := hd 11 30 (by decide) (by kernel_rfl)
      rw [show V 11 = (.string (strOfNums FA)) from s30] at e30
      clear s30
      obtain ⟨e33, s33⟩ := hd 14 33 (by decide) (by kernel_rfl)
      rw [show V 14 = (.string (strOfNums FB)) from s33] at e33
      clear s33
      obtain ⟨e25, s25⟩ := hd 6 25 (by decide) (by kernel_rfl)
      rw [show V 6 = (.bool true) from s25] at e25
      clear s25
      clear hd ho
      refine ⟨_, 34, rfl, by decide, fun K hK => ?_⟩
      refine value_ (w1 := W) (v := .string (strOfNums FL)) (wanted_on rfl rfl rfl e25) rfl ?_ (hK _ _ (Below.refl _ _) rfl)
      rw [HSL.out]
      go_simp
      exact HSZ.out
    refine stp_cons (fun V a W hB hd ho => ?_) ?_
    · obtain ⟨e28, s28⟩ := hd 9 28 (by decide) (by kernel_rfl)
      rw [show V 9 = (.string (strOfNums FL)) from s28] at e28
      clear s28
      obtain ⟨e34, s34⟩ := hd 15 34 (by decide) (by kernel_rfl)
      rw [show V 15 = (.string (strOfNums FL)) from s34] at e34
      clear s34
      obtain ⟨e25, s25⟩ := hd 6 25 (by decide) (by kernel_rfl)
      rw [show V 6 = (.bool true) from s25] at e25
      clear s25
      clear hd ho
      refine ⟨_, 35, rfl, by decide, fun K hK => ?_⟩
      refine value_ (w1 := W) (v := (.bool true)) (wanted_on rfl rfl rfl e25) rfl ?_ (hK _ _ (Below.refl _ _) rfl)
      go_simp
      try rfl
    refine stp_cons (fun V a W hB hd ho => ?_) ?_
    · obtain ⟨e25, s25⟩ := hd 6 25 (by decide) (by kernel_rfl)
      rw [show V 6 = (.bool true) from s25] at e25
      clear s25
      obtain ⟨e35, s35⟩ := hd 16 35 (by decide) (by kernel_rfl)
      rw [show V 16 = (.bool true) from s35] at e35
      clear s35
      clear hd ho
      refine ⟨_, 36, rfl, by decide, fun K hK => ?_⟩
      refine value_ (w1 := W) (v := (.bool true)) (by rfl) rfl ?_ (hK _ _ (Below.refl _ _) rfl)
      go_simp
      try rfl
    refine stp_cons (fun V a W hB hd ho => ?_) ?_
    · obtain ⟨e36, s36⟩ := hd 17 36 (by decide) (by kernel_rfl)
      rw [show V 17 = (.bool true) from s36] at e36
      clear s36
      clear hd ho
      refine ⟨_, 4, rfl, by decide, fun K hK => ?_⟩
      refine value_ (w1 := W) (v := (.bool true)) (by rfl) rfl ?_ (hK _ _ (Below.refl _ _) rfl)
      go_simp
      try rfl
    exact stp_nil
  · intro V Wend HBr_ HV_
    have HV := fun i t hm => HV_ (i, t) hm
    clear HV_
    have v18 : V 18 = .bool true := HV 18 4 (by decide)
    clear HV
    have HB2 := Aside0.mk (below_step HB.out HBr_)
    simp only [putSel, Lof, List.map_cons, List.map_nil, if_true, Act.put, List.setIfInBounds_toArray, List.set_cons_zero, List.set_cons_succ]
    rw [v18]
    go_wp2
    go_ret
    exact ⟨rfl, HB2.out⟩
theorem str_app (a b : List Int) : strOfNums (a ++ b) = strOfNums a ++ strOfNums b := by
  apply ByteArray.ext
  simp [strOfNums]
theorem str_size (a : List Int) : (strOfNums a).size = a.length := strOfNums_size a
theorem walk (A0 : Option Addr) (c0 : Nat) (l0 : List (List Int)) (A1 : Option Addr) (c1 : Nat) (l1 : List (List Int)) (w : World) (hr0 : Kd.C (Kd.slice 5 (Kd.int .u8)) w A0 l0.length l0) (hc0 : l0.length ≤ c0) (hw0 : l0.length ≤ maxLen ∧ ∀ x ∈ l0, x.length ≤ maxLen ∧ ∀ y ∈ x, (Lit.int .u8 y).wf = true) (hr1 : Kd.C (Kd.slice 5 (Kd.int .u8)) w A1 l1.length l1) (hc1 : l1.length ≤ c1) (hw1 : l1.length ≤ maxLen ∧ ∀ x ∈ l1, x.length ≤ maxLen ∧ ∀ y ∈ x, (Lit.int .u8 y).wf = true) :
    Calls Try.prog 4 #[.slice A0 l0.length c0, .slice A1 l1.length c1] w fun e w' => e = .returned (.bool true) ∧ Below w.heap.size w w' := by
  have ha := cut_bd l0
  have hb := cut_bd l1
  have fa := cut_frame l0
  have fb := cut_frame l1
  have hall : (frameOf (cutOf l0 ++ cutOf l1)) = frameOf (cutOf l0) ++ frameOf (cutOf l1) := by simp [frameOf]
  have fl : (frameOf (cutOf l0 ++ cutOf l1)).length ≤ 800640 := by rw [hall, List.length_append]; omega
  have hlen : (cutOf l0 ++ cutOf l1).length ≤ 40 := by rw [List.length_append]; omega
  obtain ⟨k1, h1⟩ := awake_ev
  obtain ⟨k2, h2⟩ := cut_ev l0
  obtain ⟨k3, h3⟩ := cut_ev l1
  obtain ⟨k4, h4⟩ := frame_ev (cutOf l0) (by omega) (by omega)
  obtain ⟨k5, h5⟩ := rframe_ev (cutOf l0) (by omega) (by omega)
  obtain ⟨k6, h6⟩ := frame_ev (cutOf l0 ++ cutOf l1) (by omega) (by omega)
  obtain ⟨k7, h7⟩ := frame_ev (cutOf l1) (by omega) (by omega)
  have hk : ∀ k0, k1 + k2 + k3 + k4 + k5 + k6 + k7 = k0 → k1 ≤ k0 ∧ k2 ≤ k0 ∧ k3 ≤ k0 ∧ k4 ≤ k0 ∧ k5 ≤ k0 ∧ k6 ≤ k0 ∧ k7 ≤ k0 := by omega
  obtain ⟨g1, g2, g3, g4, g5, g6, g7⟩ := hk _ rfl
  exact walk0 (k1 + k2 + k3 + k4 + k5 + k6 + k7) A0 c0 l0 A1 c1 l1 _ _ _ _ _ w hr0 hc0 hr1 hc1 ⟨h1 _ g1⟩ ⟨h2 _ g2⟩ ⟨h3 _ g3⟩ ⟨by simp; omega⟩ ⟨by simp; omega⟩ ⟨h4 _ g4⟩ ⟨h5 _ g5⟩ ⟨h6 _ g6⟩ ⟨h7 _ g7⟩ ⟨by rw [hall]; exact str_app _ _⟩ ⟨by rw [str_size, str_size]; omega⟩
end Go.Proofs.Ytedpmohnnagamaa.WalkFrame
