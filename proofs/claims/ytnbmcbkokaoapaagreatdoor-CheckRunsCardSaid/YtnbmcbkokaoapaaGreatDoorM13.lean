/- Walks: the document's emitter: one event; setting; showing. -/
import Derived.Test.YtnbmcbkokaoapaaGreatDoorM12
namespace Go.Proofs.YtnbmcbkokaoapaaGreatDoor
open Go Go.AV Go.Proofs.Tryz
set_option maxRecDepth 100000
set_option maxHeartbeats 1000000
/-- Does a player know, by the number of those who know? -/
def kb (n p : Int) : Bool := (p == 0 && n % 2 == 1) || (p == 1 && n / 2 % 2 == 1)
theorem wrap_ge (n : Int) : 0 ≤ IntKind.u64.wrap n := by rw [IntKind.wrap_u64]; omega
theorem kb_bits {n p : Int} : (bif (bif p == 0 then IntKind.u64.wrap n % 2 == 1 else false) then true else (bif p == 1 then IntKind.u64.wrap (IntKind.u64.wrap n / 2) % 2 == 1 else false)) = kb n p := by
  rw [IntKind.wrap_u64, IntKind.wrap_u64, kb]
  have e1 : n % 18446744073709551616 % 2 = n % 2 := by omega
  have e2 : n % 18446744073709551616 / 2 % 18446744073709551616 % 2 = n / 2 % 2 := by omega
  rw [e1, e2]
  cases p == 0 <;> cases p == 1 <;> cases n % 2 == 1 <;> rfl

theorem knowsR_calls (o : Obj) (p : Int) (h : Hp) : ACalls prog G 160 [eObj o, .int .i64 p] h fun r h' => r = .bool (kb (o 17) p) ∧ h' = h := by
  refine ACalls.enter func160 rfl ntmps160 results160 rfl ?_
  refine .seq <|
    .region <|
    .bx rfl rfl <|
    .aB rfl rfl <|
    .nil <|
    .seq <|
    .region ?_
  refine .u rfl rfl rfl (q_ia_ai rfl underlying49 sizeOf3 rfl rfl (by decide) (by decide) rfl) ?_
  refine .li rfl isAgg3 rfl rfl ?_
  refine .u rfl rfl rfl (q_conv rfl underlying3 underlying94 rfl) ?_
  refine .aI rfl rfl <|
    .nil <|
    .seq <|
    .region <|
    .mI rfl rfl <|
    .qe rfl rfl rfl <|
    .mB rfl rfl ?_
  refine .gt rfl rfl rfl (fun _ => tl0) (fun hc => q_mv rfl (rfl : _ = V.int _ _)) ?_
  refine .gt rfl rfl rfl (fun hc => tl1 12 (.opt hc)) (fun hc => q_remU rfl rfl rfl (wrap_ge _) (by decide)) ?_
  refine .gt rfl rfl rfl (fun hc => tl1 13 (.opt hc)) (fun hc => q_eq rfl rfl rfl) ?_
  refine .pt rfl rfl rfl rfl <|
    .mB rfl rfl ?_
  refine .gf rfl rfl rfl (fun _ => tl0) (fun hc => q_mv rfl (rfl : _ = V.int _ _)) ?_
  refine .gf rfl rfl rfl (fun hc => tl1 17 (.opt hc)) (fun hc => q_eq rfl rfl rfl) ?_
  refine .gf rfl rfl rfl (fun hc => tl1 18 (.opt hc)) (fun hc => q_mv rfl (rfl : _ = V.bool _)) ?_
  refine AOps.g (wanted_to rfl rfl) rfl rfl (fun _ => tl0) (fun hc => q_mv rfl (rfl : _ = V.int _ _)) ?_
  refine AOps.g (wanted_to rfl rfl) rfl rfl (fun hc => tl1 20 (.opt hc)) (fun hc => q_quo rfl rfl rfl (by decide)) ?_
  refine AOps.g (wanted_to rfl rfl) rfl rfl (fun hc => tl1 21 (.opt hc)) (fun hc => q_remU rfl rfl rfl (wrap_ge _) (by decide)) ?_
  refine AOps.g (wanted_to rfl rfl) rfl rfl (fun hc => tl1 22 (.opt hc)) (fun hc => q_eq rfl rfl rfl) ?_
  refine .gf rfl rfl rfl (fun hc => tl1 19 (.opt hc)) (fun hc => q_pickg rfl rfl (fun hp => by first | exact VLe.opt hp | exact VLe.opt (by rw [hp]; rfl) | exact VLe.opt (by simp_all)) (fun hp => by exact VLe.refl _)) ?_
  refine .pf rfl rfl rfl rfl <|
    .aB rfl rfl <|
    .nil ?_
  refine AW.ret ?_
  exact retQ.mk' (.one _) (VLe.of_eq (congrArg V.bool (by rw [Int.tdiv_eq_ediv_of_nonneg (wrap_ge _)]; exact kb_bits))) (HLe.refl _) ⟨rfl, rfl⟩

theorem bitR_calls (n p : Int) (h : Hp) : ACalls prog G 140 [.int .i64 n, .int .i64 p] h fun r h' => r = .bool (kb n p) ∧ h' = h := by
  refine ACalls.enter func140 rfl ntmps140 results140 rfl ?_
  refine .seq <|
    .region <|
    .aB rfl rfl <|
    .nil <|
    .seq <|
    .region ?_
  refine .u rfl rfl rfl (q_buildA (ds := cObj noObj) rfl zeroValue49 underlying49 sizeOf3 rfl (by kernel_rfl)) ?_
  refine AOps.s rfl rfl rfl (a_alloc rfl zeroValue49 rfl (fun id5 hid5 => ?_))
  refine .sw sizeOf49 rfl rfl rfl rfl <|
    .nil <|
    .seq <|
    .region <|
    .mI rfl rfl ?_
  refine .u rfl rfl rfl (q_ia_ab rfl underlying49 sizeOf3 rfl rfl (by decide) (by decide)) ?_
  refine AOps.s0 rfl rfl (a_store1 rfl sizeOf3 rfl (by exact bsb) (rfl : _ = V.int _ _) rfl rfl (by first | decide | exact Nat.le_of_ble_eq_true rfl) ?_)
  refine .nil <|
    .seq ?_
  refine AW.hp (h' := h.setBox id5 (cObj (upd noObj 17 n))) (by rw [Hp.setBox_setBox]; rfl) ?_
  refine AW.done 5 rfl hid5 ?_
  refine .region <|
    .lw rfl isAgg49 sizeOf49 rfl rfl <|
    .mI rfl rfl ?_
  refine .u rfl rfl rfl (QOp.call rfl call160 fun h' hl' => by exact knowsR_calls (upd noObj 17 n) p h') ?_
  refine .aB rfl rfl <|
    .nil ?_
  refine AW.ret ?_
  exact retQ.mk' (.one _) (VLe.refl _) (HLe.refl _) ⟨rfl, rfl⟩

def chg (q p : Int) (b : Bool) (now : Int) : Int := if kb p q && (kb now q != b) then (if b then now + (q + 1) else now - (q + 1)) else now
/-- Who knows, behind so many players. -/
def chgUp (was p : Int) (b : Bool) : Nat → Int
  | 0 => was
  | k + 1 => chg k p b (chgUp was p b k)
/-- The event by which players know, or don't. -/
def changeF (s : St) (i p : Int) (b : Bool) : List Ev := turnF s i fun was => chgUp was p b 2
theorem chgUp_in {was p : Int} {b : Bool} (h : -2000000000000 ≤ was ∧ was ≤ 2000000000000) (k : Nat) (hk : k ≤ 2) : -2000000000010 ≤ chgUp was p b k ∧ chgUp was p b k ≤ 2000000000010 := by
  match k, hk with
  | 0, _ => simp only [chgUp]; omega
  | 1, _ => simp only [chgUp, chg]; (repeat' split) <;> omega
  | 2, _ => simp only [chgUp, chg]; (repeat' split) <;> omega
theorem chg_bits {p now : Int} {q : Nat} {b : Bool} (c : (bif kb p q then (kb now q != b) else false) = true) : chg q p b now = if b then now + ((q : Int) + 1) else now - ((q : Int) + 1) := by
  rw [chg, if_pos]
  revert c; cases kb p q <;> simp
theorem chg_no {p now : Int} {q : Nat} {b : Bool} (c : (bif kb p q then (kb now q != b) else false) = false) : chg q p b now = now := by
  rw [chg, if_neg]
  revert c; cases kb p q <;> simp
theorem home_eq {o : Obj} {b : Int} (hb : b = 0 ∨ b = 2 ∨ b = 4 ∨ b = 6 ∨ b = 8 ∨ b = 9 ∨ b = 10) : homeF o b = if (o 13 = 1 ∧ b < 8) ∨ (o 13 = 2 ∧ b ≠ 9) then 10 else if b < 8 ∧ (o 1 = 0 ∨ o 1 = 1) then b + o 1 else b := by
  simp only [homeF, zoneF]
  rcases hb with e | e | e | e | e | e | e <;> subst e <;> simp <;> grind

theorem changeR_calls (s : St) (i p : Int) (b : Bool) (hs : 0 ≤ i → i < s.objs.length → -2000000000000 ≤ s.objs.getD i.toNat noObj 17 ∧ s.objs.getD i.toNat noObj 17 ≤ 2000000000000) (h : Hp) : ACalls prog G 124 [eState s, .int .i64 i, .int .i64 p, .bool b] h fun r h' => r = eEvs (changeF s i p b) ∧ h' = h := by
  refine ACalls.enter func124 rfl ntmps124 results124 rfl ?_
  refine .seq <|
    .region <|
    .bx rfl rfl <|
    .aN rfl rfl <|
    .nil <|
    .seq <|
    .seq <|
    .region <|
    .mI rfl rfl <|
    .ql rfl rfl rfl <|
    .mB rfl rfl ?_
  refine .gf rfl rfl rfl (fun _ => tl0) (fun hc => q_mv rfl (rfl : _ = V.int _ _)) ?_
  refine .gf rfl rfl rfl (fun _ => tl0) (fun hc => q_fa_i rfl underlying29 rfl (by exact sizeOf22) (by decide) rfl (rfl : _ = List.drop 0 _)) ?_
  refine .gf rfl rfl rfl (fun hc => tl1 16 (.opt hc)) (fun hc => q_load_i1 rfl isAgg22 rfl rfl) ?_
  refine .gf rfl rfl rfl (fun hc => tl1 17 (.opt hc)) (fun hc => q_len rfl underlying22 rfl) ?_
  refine .gf rfl rfl rfl (fun hc => tl2 18 15 (.opt hc) (.opt hc)) (fun hc => q_ge rfl rfl rfl) ?_
  refine .pf rfl rfl rfl rfl <|
    .nil ?_
  refine AW.cond rfl (fun c0 => ?_) (fun c0 => ?_)
  · have ho := turn_out c0
    refine .seq <|
      .region <|
      .aN rfl rfl <|
      .nil ?_
    refine AW.ret ?_
    exact retQ.mk' (.one _) (by rw [changeF, turnF, if_pos ho]; exact VLe.nilimm) (HLe.refl _) ⟨rfl, rfl⟩
  · have hi := turn_in c0
    have hw := hs hi.1 hi.2
    refine AW.skip ?_
    refine .seq <|
      .region <|
      .fi rfl f29_0 rfl <|
      .li rfl isAgg22 rfl rfl <|
      .mI rfl rfl ?_
    refine .u rfl rfl rfl (q_ia_s rfl underlying22 sizeOf49 rfl rfl (by omega) (by omega) (cObjs_elem' (by omega) (by omega))) ?_
    refine .u rfl rfl rfl (q_ia_ai rfl underlying49 sizeOf3 rfl rfl (by decide) (by decide) rfl) ?_
    refine .li rfl isAgg3 rfl rfl <|
      .aI rfl rfl <|
      .nil <|
      .seq <|
      .region <|
      .mI rfl rfl <|
      .aI rfl rfl <|
      .nil <|
      .seq <|
      .seq <|
      .region <|
      .aI rfl rfl <|
      .nil <|
      .block ?_
    refine AW.loop (fun n T hh => ∃ (k : Nat) , k ≤ 2 ∧ n = 2 - k ∧ T = put (put (put (put (put (put (T0) 11 (V.int .i64 (k : Nat))) 10 (V.int .i64 (chgUp (s.objs.getD i.toNat noObj 17) p b k))) 9 (V.int .i64 (s.objs.getD i.toNat noObj 17))) 3 (V.bool b)) 2 (V.int .i64 p)) 1 (V.int .i64 i) ∧ hh = h) (2) ?_ ?_
    · skip
      refine Wk.mk (TLe.put (d := 1) (VLe.refl _) (TLe.put (d := 2) (VLe.refl _) (TLe.put (d := 3) (VLe.refl _) (TLe.put (d := 9) (VLe.refl _) (TLe.put (d := 10) (by exact VLe.of_eq (congrArg (V.int .i64) (by first | rfl | omega))) (TLe.put (d := 11) (by exact VLe.of_eq (congrArg (V.int .i64) (by first | rfl | omega))) (TLe.zero _))))))) (HLe.refl _) ⟨0, Nat.zero_le _, rfl, rfl, rfl⟩
    · skip
      rintro n T h' ⟨k, hk, rfl, rfl, rfl⟩
      refine .seq <|
        .seq <|
        .region <|
        .mI rfl rfl <|
        .ql rfl rfl rfl <|
        .nil ?_
      refine AW.cond rfl (fun c1 => ?_) (fun c1 => ?_)
      · have hltk : k < 2 := by have := of_decide_eq_true c1; omega
        have hci := chgUp_in (p := p) (b := b) hw k (by omega)
        refine AW.skip ?_
        refine .seq <|
          .block <|
          .seq <|
          .region <|
          .mI rfl rfl <|
          .mI rfl rfl ?_
        refine .u rfl rfl rfl (QOp.call rfl call140 fun h' hl' => by exact bitR_calls _ _ h') ?_
        refine .mB rfl rfl ?_
        refine .gt rfl rfl rfl (fun _ => tl0) (fun hc => q_mv rfl (rfl : _ = V.int _ _)) ?_
        refine .gt rfl rfl rfl (fun _ => tl0) (fun hc => q_mv rfl (rfl : _ = V.int _ _)) ?_
        refine .gt rfl rfl rfl (fun hc => tl2 37 36 (.opt hc) (.opt hc)) (fun hc => QOp.call rfl (by exact call140) fun h' hl' => by exact bitR_calls _ _ h') ?_
        refine .gt rfl rfl rfl (fun _ => tl0) (fun hc => q_mv rfl (rfl : _ = V.bool _)) ?_
        refine .gt rfl rfl rfl (fun hc => tl2 39 38 (.opt hc) (.opt hc)) (fun hc => q_neb underlying4 rfl rfl rfl) ?_
        refine .pt rfl rfl rfl rfl <|
          .nil ?_
        refine AW.cond rfl (fun c2 => ?_) (fun c2 => ?_)
        · skip
          refine .seq <|
            .region <|
            .mB rfl rfl <|
            .nil ?_
          refine AW.cond rfl (fun c3 => ?_) (fun c3 => ?_)
          · skip
            refine .region <|
              .mI rfl rfl <|
              .mI rfl rfl <|
              .ad rfl rfl rfl (by omega) <|
              .ad rfl rfl rfl (by omega) <|
              .aI rfl rfl <|
              .nil <|
              .region <|
              .mI rfl rfl <|
              .ad rfl rfl rfl (by omega) <|
              .aI rfl rfl <|
              .nil ?_
            refine Wk.mk (TLe.put (d := 1) (VLe.refl _) (TLe.put (d := 2) (VLe.refl _) (TLe.put (d := 3) (VLe.refl _) (TLe.put (d := 9) (VLe.refl _) (TLe.put (d := 10) (VLe.of_eq (congrArg (V.int .i64) (by first | (rw [chgUp, chg_bits c2, if_pos (by simpa using c3)]; done) | (rw [chgUp, chg_bits c2, if_neg (by simpa using c3)]; done) | rw [chgUp, chg_no c2]))) (TLe.put (d := 11) (by exact VLe.of_eq (congrArg (V.int .i64) (by first | rfl | omega))) (TLe.zero _))))))) (HLe.refl _) ⟨_, ?_, k + 1, ?_, rfl, rfl, rfl⟩
            · omega
            · omega
          · skip
            refine .region <|
              .mI rfl rfl <|
              .mI rfl rfl <|
              .ad rfl rfl rfl (by omega) ?_
            refine .u rfl rfl rfl (q_sub' rfl rfl rfl (by omega)) ?_
            refine .aI rfl rfl <|
              .nil <|
              .region <|
              .mI rfl rfl <|
              .ad rfl rfl rfl (by omega) <|
              .aI rfl rfl <|
              .nil ?_
            refine Wk.mk (TLe.put (d := 1) (VLe.refl _) (TLe.put (d := 2) (VLe.refl _) (TLe.put (d := 3) (VLe.refl _) (TLe.put (d := 9) (VLe.refl _) (TLe.put (d := 10) (VLe.of_eq (congrArg (V.int .i64) (by first | (rw [chgUp, chg_bits c2, if_pos (by simpa using c3)]; done) | (rw [chgUp, chg_bits c2, if_neg (by simpa using c3)]; done) | rw [chgUp, chg_no c2]))) (TLe.put (d := 11) (by exact VLe.of_eq (congrArg (V.int .i64) (by first | rfl | omega))) (TLe.zero _))))))) (HLe.refl _) ⟨_, ?_, k + 1, ?_, rfl, rfl, rfl⟩
            · omega
            · omega
        · skip
          refine AW.skip ?_
          refine .region <|
            .mI rfl rfl <|
            .ad rfl rfl rfl (by omega) <|
            .aI rfl rfl <|
            .nil ?_
          refine Wk.mk (TLe.put (d := 1) (VLe.refl _) (TLe.put (d := 2) (VLe.refl _) (TLe.put (d := 3) (VLe.refl _) (TLe.put (d := 9) (VLe.refl _) (TLe.put (d := 10) (VLe.of_eq (congrArg (V.int .i64) (by first | (rw [chgUp, chg_bits c2, if_pos (by simpa using c3)]; done) | (rw [chgUp, chg_bits c2, if_neg (by simpa using c3)]; done) | rw [chgUp, chg_no c2]))) (TLe.put (d := 11) (by exact VLe.of_eq (congrArg (V.int .i64) (by first | rfl | omega))) (TLe.zero _))))))) (HLe.refl _) ⟨_, ?_, k + 1, ?_, rfl, rfl, rfl⟩
          · omega
          · omega
      · obtain rfl : k = 2 := by have := of_decide_eq_false c1; omega
        refine AW.exit ?_
        refine .seq <|
          .seq <|
          .region <|
          .mI rfl rfl <|
          .mI rfl rfl <|
          .qe rfl rfl rfl <|
          .nil ?_
        refine AW.cond rfl (fun c4 => ?_) (fun c4 => ?_)
        · skip
          refine .seq <|
            .region <|
            .aN rfl rfl <|
            .nil ?_
          refine AW.ret ?_
          exact retQ.mk' (.one _) (by rw [changeF, turnF, if_neg (by omega), if_pos (by simpa using c4)]; exact VLe.nilimm) (HLe.refl _) ⟨rfl, rfl⟩
        · skip
          refine AW.skip ?_
          refine .seq <|
            .region <|
            .mI rfl rfl <|
            .mI rfl rfl <|
            .mI rfl rfl ?_
          refine .u rfl rfl rfl (q_buildS (ds := cEv ⟨2, i, 17, s.objs.getD i.toNat noObj 17, chgUp (s.objs.getD i.toNat noObj 17) p b 2, 0⟩) rfl zeroValue84 underlying84 (pl84 underlying84) rfl (by kernel_rfl)) ?_
          refine .u rfl rfl rfl (q_buildSl rfl underlying54 sizeOf84 zeroValue84 rfl rfl rfl rfl rfl) ?_
          refine .aS rfl rfl <|
            .nil ?_
          refine AW.ret ?_
          exact retQ.mk' (.one _) (by rw [changeF, turnF, if_neg (by omega), if_neg (by simpa using c4)]; exact VLe.fullimm) (HLe.refl _) ⟨rfl, rfl⟩

theorem zoneR_calls (z : Int) (h : Hp) : ACalls prog G 99 [.int .i64 z] h fun r h' => r = .int .i64 (knowZoneF z) ∧ h' = h := by
  refine ACalls.enter func99 rfl ntmps99 results99 rfl ?_
  refine .seq <|
    .region <|
    .aI rfl rfl <|
    .nil <|
    .seq <|
    .seq <|
    .region <|
    .mI rfl rfl <|
    .nil <|
    .block <|
    .seq <|
    .region <|
    .qe rfl rfl rfl <|
    .aB rfl rfl <|
    .nil ?_
  refine AW.cond rfl (fun c0 => ?_) (fun c0 => ?_)
  · skip
    refine .seq <|
      .region <|
      .aI rfl rfl <|
      .nil ?_
    refine AW.ret ?_
    exact retQ.mk' (.one _) (VLe.of_eq (congrArg (V.int .i64) (by unfold knowZoneF; simp only [beq_iff_eq, beq_eq_false_iff_ne] at *; (repeat' split) <;> omega))) (HLe.refl _) ⟨rfl, rfl⟩
  · skip
    refine .seq <|
      .region <|
      .qe rfl rfl rfl <|
      .aB rfl rfl <|
      .nil ?_
    refine AW.cond rfl (fun c1 => ?_) (fun c1 => ?_)
    · skip
      refine .seq <|
        .region <|
        .aI rfl rfl <|
        .nil ?_
      refine AW.ret ?_
      exact retQ.mk' (.one _) (VLe.of_eq (congrArg (V.int .i64) (by unfold knowZoneF; simp only [beq_iff_eq, beq_eq_false_iff_ne] at *; (repeat' split) <;> omega))) (HLe.refl _) ⟨rfl, rfl⟩
    · skip
      refine .seq <|
        .seq <|
        .region <|
        .qe rfl rfl rfl <|
        .aB rfl rfl <|
        .nil ?_
      refine AW.cond rfl (fun c2 => ?_) (fun c2 => ?_)
      · skip
        refine AW.skip ?_
        refine AW.condT rfl c2 ?_
        refine .seq <|
          .region <|
          .aI rfl rfl <|
          .nil ?_
        refine AW.ret ?_
        exact retQ.mk' (.one _) (VLe.of_eq (congrArg (V.int .i64) (by unfold knowZoneF; simp only [beq_iff_eq, beq_eq_false_iff_ne] at *; (repeat' split) <;> omega))) (HLe.refl _) ⟨rfl, rfl⟩
      · skip
        refine .seq <|
          .region <|
          .qe rfl rfl rfl <|
          .aB rfl rfl <|
          .nil ?_
        refine AW.cond rfl (fun c3 => ?_) (fun c3 => ?_)
        · skip
          refine AW.skip ?_
          refine AW.condT rfl c3 ?_
          refine .seq <|
            .region <|
            .aI rfl rfl <|
            .nil ?_
          refine AW.ret ?_
          exact retQ.mk' (.one _) (VLe.of_eq (congrArg (V.int .i64) (by unfold knowZoneF; simp only [beq_iff_eq, beq_eq_false_iff_ne] at *; (repeat' split) <;> omega))) (HLe.refl _) ⟨rfl, rfl⟩
        · skip
          refine .seq <|
            .region <|
            .qe rfl rfl rfl <|
            .aB rfl rfl <|
            .nil ?_
          refine AW.cond rfl (fun c4 => ?_) (fun c4 => ?_)
          · skip
            refine AW.skip ?_
            refine AW.condT rfl c4 ?_
            refine .seq <|
              .region <|
              .aI rfl rfl <|
              .nil ?_
            refine AW.ret ?_
            exact retQ.mk' (.one _) (VLe.of_eq (congrArg (V.int .i64) (by unfold knowZoneF; simp only [beq_iff_eq, beq_eq_false_iff_ne] at *; (repeat' split) <;> omega))) (HLe.refl _) ⟨rfl, rfl⟩
          · skip
            refine .seq <|
              .region <|
              .qe rfl rfl rfl <|
              .aB rfl rfl <|
              .nil ?_
            refine AW.cond rfl (fun c5 => ?_) (fun c5 => ?_)
            · skip
              refine AW.skip ?_
              refine AW.condT rfl c5 ?_
              refine .seq <|
                .region <|
                .aI rfl rfl <|
                .nil ?_
              refine AW.ret ?_
              exact retQ.mk' (.one _) (VLe.of_eq (congrArg (V.int .i64) (by unfold knowZoneF; simp only [beq_iff_eq, beq_eq_false_iff_ne] at *; (repeat' split) <;> omega))) (HLe.refl _) ⟨rfl, rfl⟩
            · skip
              refine .seq <|
                .region <|
                .qe rfl rfl rfl <|
                .aB rfl rfl <|
                .nil ?_
              refine AW.cond rfl (fun c6 => ?_) (fun c6 => ?_)
              · skip
                refine AW.skip ?_
                refine AW.condT rfl c6 ?_
                refine .seq <|
                  .region <|
                  .aI rfl rfl <|
                  .nil ?_
                refine AW.ret ?_
                exact retQ.mk' (.one _) (VLe.of_eq (congrArg (V.int .i64) (by unfold knowZoneF; simp only [beq_iff_eq, beq_eq_false_iff_ne] at *; (repeat' split) <;> omega))) (HLe.refl _) ⟨rfl, rfl⟩
              · skip
                refine .seq <|
                  .region <|
                  .qe rfl rfl rfl <|
                  .aB rfl rfl <|
                  .nil ?_
                refine AW.cond rfl (fun c7 => ?_) (fun c7 => ?_)
                · skip
                  refine AW.skip ?_
                  refine AW.condT rfl c7 ?_
                  refine .seq <|
                    .region <|
                    .aI rfl rfl <|
                    .nil ?_
                  refine AW.ret ?_
                  exact retQ.mk' (.one _) (VLe.of_eq (congrArg (V.int .i64) (by unfold knowZoneF; simp only [beq_iff_eq, beq_eq_false_iff_ne] at *; (repeat' split) <;> omega))) (HLe.refl _) ⟨rfl, rfl⟩
                · skip
                  refine .region <|
                    .qe rfl rfl rfl <|
                    .aB rfl rfl <|
                    .nil ?_
                  refine AW.cond rfl (fun c8 => ?_) (fun c8 => ?_)
                  · skip
                    refine .seq <|
                      .region <|
                      .aI rfl rfl <|
                      .nil ?_
                    refine AW.ret ?_
                    exact retQ.mk' (.one _) (VLe.of_eq (congrArg (V.int .i64) (by unfold knowZoneF; simp only [beq_iff_eq, beq_eq_false_iff_ne] at *; (repeat' split) <;> omega))) (HLe.refl _) ⟨rfl, rfl⟩
                  · skip
                    refine AW.skip ?_
                    refine .seq <|
                      .region <|
                      .aI rfl rfl <|
                      .nil ?_
                    refine AW.ret ?_
                    exact retQ.mk' (.one _) (VLe.of_eq (congrArg (V.int .i64) (by unfold knowZoneF; simp only [beq_iff_eq, beq_eq_false_iff_ne] at *; (repeat' split) <;> omega))) (HLe.refl _) ⟨rfl, rfl⟩

theorem homeR_calls (o : Obj) (b : Int) (hb : basesF b = true) (h : Hp) : ACalls prog G 95 [eObj o, .int .i64 b] h fun r h' => r = .int .i64 (homeF o b) ∧ h' = h := by
  have hb2 : b = 0 ∨ b = 2 ∨ b = 4 ∨ b = 6 ∨ b = 8 ∨ b = 9 ∨ b = 10 := by
    simp only [basesF, zoneF, Bool.or_eq_true, beq_iff_eq, decide_eq_true_eq] at hb
    split at hb <;> omega
  refine ACalls.enter func95 rfl ntmps95 results95 rfl ?_
  refine .seq <|
    .region <|
    .bx rfl rfl <|
    .aI rfl rfl <|
    .nil <|
    .seq <|
    .region <|
    .mI rfl rfl <|
    .aI rfl rfl <|
    .nil <|
    .seq <|
    .seq <|
    .region <|
    .mI rfl rfl <|
    .ql rfl rfl rfl <|
    .mB rfl rfl ?_
  refine .gt rfl rfl rfl (fun _ => tl0) (fun hc => q_ia_ai rfl underlying49 sizeOf3 rfl rfl (by decide) (by decide) rfl) ?_
  refine .gt rfl rfl rfl (fun hc => tl1 10 (.opt hc)) (fun hc => q_load_i1 rfl isAgg3 rfl rfl) ?_
  refine .gt rfl rfl rfl (fun hc => tl1 11 (.opt hc)) (fun hc => q_eq rfl rfl rfl) ?_
  refine .gt rfl rfl rfl (fun hc => tl1 12 (.opt hc)) (fun hc => q_mv rfl (rfl : _ = V.bool _)) ?_
  refine AOps.g (wanted_fo rfl rfl) rfl rfl (fun _ => tl0) (fun hc => q_ia_ai rfl underlying49 sizeOf3 rfl rfl (by decide) (by decide) rfl) ?_
  refine AOps.g (wanted_fo rfl rfl) rfl rfl (fun hc => tl1 14 (.opt hc)) (fun hc => q_load_i1 rfl isAgg3 rfl rfl) ?_
  refine AOps.g (wanted_fo rfl rfl) rfl rfl (fun hc => tl1 15 (.opt hc)) (fun hc => q_eq rfl rfl rfl) ?_
  refine .gt rfl rfl rfl (fun hc => tl1 13 (.opt hc)) (fun hc => q_pickg rfl rfl (fun hp => by exact VLe.refl _) (fun hp => by first | exact VLe.opt hp | exact VLe.opt (by rw [hp]; rfl) | exact VLe.opt (by simp_all))) ?_
  refine .pt rfl rfl rfl rfl <|
    .nil ?_
  refine AW.cond rfl (fun c0 => ?_) (fun c0 => ?_)
  · have ho : b < 8 ∧ (o 1 = 0 ∨ o 1 = 1) := by simpa using c0
    refine .region <|
      .mI rfl rfl ?_
    refine .u rfl rfl rfl (q_ia_ai rfl underlying49 sizeOf3 rfl rfl (by decide) (by decide) rfl) ?_
    refine .li rfl isAgg3 rfl rfl <|
      .ad rfl rfl rfl (by omega) <|
      .aI rfl rfl <|
      .nil <|
      .seq <|
      .seq <|
      .region ?_
    refine .u rfl rfl rfl (q_ia_ai rfl underlying49 sizeOf3 rfl rfl (by decide) (by decide) rfl) ?_
    refine .li rfl isAgg3 rfl rfl <|
      .qe rfl rfl rfl <|
      .mB rfl rfl ?_
    refine .gt rfl rfl rfl (fun _ => tl0) (fun hc => q_mv rfl (rfl : _ = V.int _ _)) ?_
    refine .gt rfl rfl rfl (fun hc => tl1 27 (.opt hc)) (fun hc => q_lt rfl rfl rfl) ?_
    refine .pt rfl rfl rfl rfl <|
      .mB rfl rfl ?_
    refine .gf rfl rfl rfl (fun _ => tl0) (fun hc => q_ia_ai rfl underlying49 sizeOf3 rfl rfl (by decide) (by decide) rfl) ?_
    refine .gf rfl rfl rfl (fun hc => tl1 31 (.opt hc)) (fun hc => q_load_i1 rfl isAgg3 rfl rfl) ?_
    refine .gf rfl rfl rfl (fun hc => tl1 32 (.opt hc)) (fun hc => q_eq rfl rfl rfl) ?_
    refine .gf rfl rfl rfl (fun hc => tl1 33 (.opt hc)) (fun hc => q_mv rfl (rfl : _ = V.bool _)) ?_
    refine AOps.g (wanted_to rfl rfl) rfl rfl (fun _ => tl0) (fun hc => q_mv rfl (rfl : _ = V.int _ _)) ?_
    refine AOps.g (wanted_to rfl rfl) rfl rfl (fun hc => tl1 35 (.opt hc)) (fun hc => q_ne rfl rfl rfl) ?_
    refine .gf rfl rfl rfl (fun hc => tl1 34 (.opt hc)) (fun hc => q_pickg rfl rfl (fun hp => by first | exact VLe.opt hp | exact VLe.opt (by rw [hp]; rfl) | exact VLe.opt (by simp_all)) (fun hp => by exact VLe.refl _)) ?_
    refine .pf rfl rfl rfl rfl <|
      .nil ?_
    refine AW.cond rfl (fun c1 => ?_) (fun c1 => ?_)
    · skip
      refine .seq <|
        .region <|
        .aI rfl rfl <|
        .nil ?_
      refine AW.ret ?_
      exact retQ.mk' (.one _) (VLe.of_eq (congrArg (V.int .i64) (by rw [home_eq hb2]; simp at c1; (repeat' split) <;> omega))) (HLe.refl _) ⟨rfl, rfl⟩
    · skip
      refine AW.skip ?_
      refine .seq <|
        .region <|
        .mI rfl rfl <|
        .aI rfl rfl <|
        .nil ?_
      refine AW.ret ?_
      exact retQ.mk' (.one _) (VLe.of_eq (congrArg (V.int .i64) (by rw [home_eq hb2]; simp at c1; (repeat' split) <;> omega))) (HLe.refl _) ⟨rfl, rfl⟩
  · have ho : ¬ (b < 8 ∧ (o 1 = 0 ∨ o 1 = 1)) := by simp at c0; omega
    refine AW.skip ?_
    refine .seq <|
      .seq <|
      .region ?_
    refine .u rfl rfl rfl (q_ia_ai rfl underlying49 sizeOf3 rfl rfl (by decide) (by decide) rfl) ?_
    refine .li rfl isAgg3 rfl rfl <|
      .qe rfl rfl rfl <|
      .mB rfl rfl ?_
    refine .gt rfl rfl rfl (fun _ => tl0) (fun hc => q_mv rfl (rfl : _ = V.int _ _)) ?_
    refine .gt rfl rfl rfl (fun hc => tl1 27 (.opt hc)) (fun hc => q_lt rfl rfl rfl) ?_
    refine .pt rfl rfl rfl rfl <|
      .mB rfl rfl ?_
    refine .gf rfl rfl rfl (fun _ => tl0) (fun hc => q_ia_ai rfl underlying49 sizeOf3 rfl rfl (by decide) (by decide) rfl) ?_
    refine .gf rfl rfl rfl (fun hc => tl1 31 (.opt hc)) (fun hc => q_load_i1 rfl isAgg3 rfl rfl) ?_
    refine .gf rfl rfl rfl (fun hc => tl1 32 (.opt hc)) (fun hc => q_eq rfl rfl rfl) ?_
    refine .gf rfl rfl rfl (fun hc => tl1 33 (.opt hc)) (fun hc => q_mv rfl (rfl : _ = V.bool _)) ?_
    refine AOps.g (wanted_to rfl rfl) rfl rfl (fun _ => tl0) (fun hc => q_mv rfl (rfl : _ = V.int _ _)) ?_
    refine AOps.g (wanted_to rfl rfl) rfl rfl (fun hc => tl1 35 (.opt hc)) (fun hc => q_ne rfl rfl rfl) ?_
    refine .gf rfl rfl rfl (fun hc => tl1 34 (.opt hc)) (fun hc => q_pickg rfl rfl (fun hp => by first | exact VLe.opt hp | exact VLe.opt (by rw [hp]; rfl) | exact VLe.opt (by simp_all)) (fun hp => by exact VLe.refl _)) ?_
    refine .pf rfl rfl rfl rfl <|
      .nil ?_
    refine AW.cond rfl (fun c2 => ?_) (fun c2 => ?_)
    · skip
      refine .seq <|
        .region <|
        .aI rfl rfl <|
        .nil ?_
      refine AW.ret ?_
      exact retQ.mk' (.one _) (VLe.of_eq (congrArg (V.int .i64) (by rw [home_eq hb2]; simp at c2; (repeat' split) <;> omega))) (HLe.refl _) ⟨rfl, rfl⟩
    · skip
      refine AW.skip ?_
      refine .seq <|
        .region <|
        .mI rfl rfl <|
        .aI rfl rfl <|
        .nil ?_
      refine AW.ret ?_
      exact retQ.mk' (.one _) (VLe.of_eq (congrArg (V.int .i64) (by rw [home_eq hb2]; simp at c2; (repeat' split) <;> omega))) (HLe.refl _) ⟨rfl, rfl⟩

end Go.Proofs.YtnbmcbkokaoapaaGreatDoor
/- Walks: the document's emitter: one event; setting; showing. -/
namespace Go.Proofs.YtnbmcbkokaoapaaGreatDoor
open Go Go.AV Go.Proofs.Tryz
set_option maxRecDepth 100000
set_option maxHeartbeats 1000000
/-! Small numbers. -/
def sml (n : Int) : Prop := -1073741824 ≤ n ∧ n ≤ 1073741824
structure Sm (s : St) : Prop where
  o : ∀ i f, f < 18 → sml (s.objs.getD i noObj f)
  p : ∀ p f, p < 2 → f < 9 → sml (s.pl p f)
  g : ∀ f, f < 7 → sml (s.game f)
theorem getD_set {l : List Obj} {a i : Nat} {o : Obj} : (l.set a o).getD i noObj = if a = i ∧ a < l.length then o else l.getD i noObj := by
  simp only [List.getD_eq_getElem?_getD, List.getElem?_set]
  by_cases e : a = i
  · subst e; by_cases g : a < l.length <;> simp [g]
  · simp [e]
theorem sm_set {l : List Obj} {a b : Nat} {v : Int} (h : ∀ i f, f < 18 → sml (l.getD i noObj f)) (hv : sml v) : ∀ i f, f < 18 → sml ((l.set a (upd (l.getD a noObj) b v)).getD i noObj f) := by
  intro i f hf
  rw [getD_set]; split
  · unfold upd; split
    · exact hv
    · exact h a f hf
  · exact h i f hf
theorem evCheck_sml {x : Ev} (h : evCheck x = 0) (e : x.k ≠ 0 ∧ x.k ≠ 5 ∧ x.k ≠ 1) : sml x.d := by
  unfold evCheck at h
  split at h
  · cases h
  · split at h
    · cases h
    · split at h
      · cases h
      · rename_i h1 h2 h3
        simp only [Bool.not_eq_false] at h3
        have : small x.d = true := by
          unfold evRanges at h3
          rw [if_neg (by omega), if_neg (by omega)] at h3
          split at h3
          · simp only [Bool.and_eq_true] at h3; exact h3.2
          · split at h3
            · simp only [Bool.and_eq_true] at h3; exact h3.2
            · simp only [Bool.and_eq_true] at h3; exact h3.2
        simpa [small, sml] using this
theorem moveF_sm {s : St} {x : Ev} (hx : MoveOk x) (h : Sm s) : Sm (moveF s x).1 := by
  by_cases h0 : (s.objs.length : Int) ≤ x.a
  · rw [moveF, if_pos h0]; exact h
  · cases h1 : (bif (removeF (s.lists x.b.toNat) x.c).2.2 != 0 then true else (removeF (s.lists x.b.toNat) x.c).2.1 != x.a) with
    | true => rw [move_bad h0 h1]; exact h
    | false =>
      by_cases h2 : (insertF (if x.d = x.b then (removeF (s.lists x.b.toNat) x.c).1 else s.lists x.d.toNat) x.e x.a).2 = 0
      · rw [move_ok h0 h1 rfl h2]; exact ⟨sm_set h.o (by have := hx.d; unfold sml; omega), h.p, h.g⟩
      · rw [move_err h0 h1 rfl h2]; exact h
theorem madeF_sm {x : Ev} (h : 0 ≤ x.a ∧ x.a < 120 ∧ 0 ≤ x.b ∧ x.b < 2 ∧ 0 ≤ x.c ∧ x.c < 3) (f : Nat) : sml (madeF x f) := by
  unfold madeF sml; split <;> omega
theorem evCheck_make {x : Ev} (h : evCheck x = 0) (e : x.k = 0 ∨ x.k = 5) : (0 ≤ x.a ∧ x.a < 120 ∧ 0 ≤ x.b ∧ x.b < 2 ∧ 0 ≤ x.c ∧ x.c < 3) ∧ x.d = 0 ∧ x.e = 0 := by
  unfold evCheck at h
  split at h
  · cases h
  · split at h
    · cases h
    · split at h
      · cases h
      · rename_i h1 h2 h3
        simp only [Bool.not_eq_false] at h3 h2
        have hm : evMakes x = true := by rcases e with e | e <;> simp [evMakes, e]
        rw [evSpare, if_pos hm] at h2
        rw [evRanges, if_pos e] at h3
        simp [inN] at h2 h3; omega
theorem evDo_sm {s : St} {x : Ev} (h : Sm s) : Sm (evDo s x).1 := by
  unfold evDo
  split
  · exact h
  · rename_i hc
    have hc : evCheck x = 0 := by simpa using hc
    have ok := evCheck_ok hc
    split
    · rename_i e
      split
      · exact h
      · refine ⟨fun i f hf => ?_, h.p, h.g⟩
        simp only [List.getD_eq_getElem?_getD]
        by_cases hi : i < s.objs.length
        · rw [List.getElem?_append_left hi]; have := h.o i f hf; simpa [List.getD_eq_getElem?_getD] using this
        · by_cases hi2 : i = s.objs.length
          · subst hi2; simp; exact madeF_sm (evCheck_make hc (.inl e)).1 f
          · rw [List.getElem?_eq_none (by simp; omega)]; simp [noObj, sml]
    · split
      · rename_i e; exact moveF_sm (ok.2.1 e) h
      · split
        · split
          · exact h
          · split
            · exact h
            · exact ⟨sm_set h.o (evCheck_sml hc (by omega)), h.p, h.g⟩
        · split
          · split
            · exact h
            · refine ⟨h.o, fun p f hp hf => ?_, h.g⟩
              have := evCheck_sml hc (by omega)
              simp only [upd]; split
              · simp only [upd]; split
                · exact this
                · exact h.p _ f (by omega) hf
              · exact h.p p f hp hf
          · split
            · exact h
            · refine ⟨h.o, h.p, fun f hf => ?_⟩
              simp only [upd]; split
              · by_cases e5 : x.k = 5
                · rw [(evCheck_make hc (.inr e5)).2.1]; unfold sml; omega
                · exact evCheck_sml hc (by omega)
              · exact h.g f hf
theorem Sm.know {s : St} (h : Sm s) {i : Int} : 0 ≤ i → i < s.objs.length → -2000000000000 ≤ s.objs.getD i.toNat noObj 17 ∧ s.objs.getD i.toNat noObj 17 ≤ 2000000000000 := fun _ _ => by
  have := h.o i.toNat 17 (by decide); unfold sml at this; omega
/-! The document's emitter in memory. -/
def gCells (g : Em) (ve vp : V) : List V := cState g.now ++ [eInts g.draws, ve, vp, .int .i64 g.err]
def GAt (h0 : Hp) (id : Nat) (g : Em) (h : Hp) : Prop := ∃ ve vp, EmR h0 id g ve vp ∧ h = (addTok ve (addTok vp h0)).setBox id (gCells g ve vp)
theorem GAt.le {h0 : Hp} {id : Nat} {g : Em} {h : Hp} (e : GAt h0 id g h) : HLe h h0 := by
  obtain ⟨ve, vp, r, rfl⟩ := e; exact r.le _
/-- What holds of it beside. -/
structure GI (g : Em) : Prop where
  inv : EmI g
  ob : g.now.objs.length ≤ 1000000
  ls : ∀ z, (g.now.lists z).length ≤ 1000000
def Em.rdo (g : Em) (x : Ev) : Em :=
  if g.err ≠ 0 then g
  else if (evDo g.now x).2 ≠ 0 then ⟨g.now, g.draws, g.evs, g.pend, (evDo g.now x).2⟩
  else if g.evs.length < 65536 then ⟨appSt g.now x, g.draws, g.evs ++ [x], g.pend, g.err⟩ else ⟨g.now, g.draws, g.evs, g.pend, 5⟩
theorem rdo_inv {g : Em} {x : Ev} (hk : x.k ≠ 0) (h : GI g) : GI (g.rdo x) := by
  unfold Em.rdo
  split
  · exact h
  · rename_i h0
    have h0 : g.err = 0 := by simpa using h0
    split
    · rename_i h1; exact ⟨⟨fun e => absurd e h1, h.inv.evs⟩, h.ob, h.ls⟩
    · split
      · rename_i h1 h2
        have ha : appSt g.now x = (evDo g.now x).1 := by rw [appSt, if_pos (by simpa using h1)]
        have hz : Sz (evDo g.now x).1 := evDo_sz hk (h.inv.sz h0)
        exact ⟨⟨fun _ => by rw [ha]; exact hz, by simp; omega⟩, by simp only [ha]; have := hz.objs; omega, fun z => by simp only [ha]; have := hz.lists z; omega⟩
      · exact ⟨⟨(fun e => by cases e), h.inv.evs⟩, h.ob, h.ls⟩
theorem rdo_sm {g : Em} {x : Ev} (h : Sm g.now) : Sm (g.rdo x).now := by
  unfold Em.rdo
  split
  · exact h
  · split
    · exact h
    · split
      · rename_i h1 _
        show Sm (appSt g.now x)
        rw [appSt, if_pos (by simpa using h1)]; exact evDo_sm h
      · exact h
theorem rfail_inv {g : Em} {e : Int} (h : GI g) : GI (g.fail e) := by
  unfold Em.fail; split
  · rename_i h0; exact ⟨⟨fun _ => h.inv.sz h0, h.inv.evs⟩, h.ob, h.ls⟩
  · exact h

theorem rfail_calls (e : Int) {h0 : Hp} {id : Nat} {g : Em} {h : Hp} (he : GAt h0 id g h) : ACalls prog G 125 [.ptr id 0, .int .i64 e] h fun r h' => r = .tup [] ∧ GAt h0 id (g.fail e) h' := by
  obtain ⟨ve, vp, hr, rfl⟩ := he
  refine ACalls.enter func125 rfl ntmps125 results125 rfl ?_
  refine .seq <|
    .region <|
    .mP rfl rfl <|
    .nP rfl rfl <|
    .fb rfl f70_40 rfl rfl <|
    .lb rfl isAgg3 rfl rfl <|
    .qe rfl rfl rfl <|
    .nil ?_
  refine AW.cond rfl (fun c0 => ?_) (fun c0 => ?_)
  · skip
    refine .region <|
      .mP rfl rfl <|
      .mI rfl rfl <|
      .nP rfl rfl <|
      .fb rfl f70_40 rfl rfl ?_
    refine AOps.s0 rfl rfl (a_store1 rfl sizeOf3 rfl (by exact bsb) (rfl : _ = V.int _ _) rfl rfl (by first | decide | exact Nat.le_of_ble_eq_true rfl) ?_)
    refine .nil ?_
    exact retQ.mk .none ⟨rfl, ve, vp, ⟨by rw [Em.fail, if_pos (by simpa using c0)]; exact hr.ae, by rw [Em.fail, if_pos (by simpa using c0)]; exact hr.ap, hr.fp, hr.fe, hr.fi⟩, by rw [Em.fail, if_pos (by simpa using c0), Hp.setBox_setBox]; rfl⟩
  · skip
    refine AW.skip ?_
    exact retQ.mk .none ⟨rfl, by rw [Em.fail, if_neg (by simpa using c0)]; exact ⟨ve, vp, hr, rfl⟩⟩

theorem rdo_full {b : Int} {n : Nat} (c : (bif b == 0 then decide ((65536 : Int) ≤ n) else false) = true) : b = 0 ∧ 65536 ≤ n := by
  cases h : b == 0
  · rw [h] at c; cases c
  · rw [h] at c; simp at h c; omega
theorem rdo_room {b : Int} {n : Nat} (c : (bif b == 0 then decide ((65536 : Int) ≤ n) else false) = false) (h : b = 0) : n < 65536 := by
  subst h; simp at c; omega

theorem rdo_calls (x : Ev) (hk : x.k ≠ 0 ∧ x.k ≠ 5) {h0 : Hp} {id : Nat} {g : Em} {h : Hp} (he : GAt h0 id g h) (hI : GI g) : ACalls prog G 67 [.ptr id 0, eEv x] h fun r h' => r = .tup [] ∧ GAt h0 id (g.rdo x) h' := by
  obtain ⟨ve, vp, hr, rfl⟩ := he
  have hev := hI.inv.evs
  refine ACalls.enter func67 rfl ntmps67 results67 rfl ?_
  refine .seq <|
    .region <|
    .bx rfl rfl <|
    .nil <|
    .seq <|
    .seq <|
    .region <|
    .mP rfl rfl <|
    .nP rfl rfl <|
    .fb rfl f70_40 rfl rfl <|
    .lb rfl isAgg3 rfl rfl <|
    .qn rfl rfl rfl <|
    .nil ?_
  refine AW.cond rfl (fun c0 => ?_) (fun c0 => ?_)
  · skip
    refine AW.ret ?_
    exact retQ.mk .none ⟨rfl, by rw [Em.rdo, if_pos (by simpa using c0)]; exact ⟨ve, vp, hr, rfl⟩⟩
  · have he1 : g.err = 0 := by simpa using c0
    refine AW.skip ?_
    refine .seq ?_
    refine AW.draw [10] [8] [(0, true), (1, true), (2, true), (3, true), (4, true), (5, true), (6, true), (7, true), (8, true), (9, false), (10, false), (11, true)] mixed (by kernel_rfl) rfl (by kernel_rfl) ?_
    refine .q rfl rfl rfl rfl (q_mv rfl (rfl : _ = V.ptr _ _)) ?_
    refine .q rfl rfl rfl rfl (q_nc rfl (rfl : _ = V.ptr _ _) rfl) ?_
    refine .q rfl rfl rfl rfl (q_fa_b rfl underlying70 rfl (by exact sizeOf29) (by decide) rfl (rfl : _ = 0)) ?_
    refine .q rfl rfl rfl rfl (q_load_bN (ds := cState g.now) rfl isAgg29 sizeOf29 (by decide) rfl (by exact bsb) rfl rfl) ?_
    refine .q rfl rfl rfl rfl (q_load_iW rfl isAgg84 sizeOf84 rfl (by rfl)) ?_
    refine .q rfl rfl rfl rfl (QOp.call rfl (by exact call101) fun h' hl' => by exact refApply_calls g.now x hk hI.ob hI.ls h') ?_
    refine .q rfl rfl rfl rfl (q_mv rfl (rfl : _ = V.tup _)) ?_
    refine .q rfl rfl rfl rfl (q_extract rfl rfl rfl) ?_
    refine .p rfl rfl rfl (fun _ => q_extract rfl rfl rfl) ?_
    refine AOrd.s' rfl rfl rfl (a_alloc rfl zeroValue29 rfl (fun id4 hid4 => ⟨?_, HLe.setBox hid4.1⟩))
    refine AOrd.s0 rfl rfl rfl rfl (a_storeA rfl sizeOf29 rfl (by exact bsb) (rfl : _ = V.agg _) rfl (by first | decide | exact Nat.le_of_ble_eq_true rfl) ?_)
    refine .q rfl rfl rfl rfl (q_as rfl (rfl : _ = V.int _ _)) ?_
    refine AOrd.nil ?_
    refine .seq <|
      .seq ?_
    refine AW.hp (h' := ((addTok ve (addTok vp h0)).setBox id (gCells g ve vp)).setBox id4 (cState (appSt g.now x))) (by rw [Hp.setBox_setBox]; rfl) ?_
    refine AW.done 4 rfl hid4 ?_
    refine .region <|
      .mI rfl rfl <|
      .qe rfl rfl rfl <|
      .mB rfl rfl ?_
    refine .gt rfl rfl rfl (fun _ => tl0) (fun hc => q_mv rfl (rfl : _ = V.ptr _ _)) ?_
    refine .gt rfl rfl rfl (fun hc => tl1 23 (.opt hc)) (fun hc => q_nc rfl (rfl : _ = V.ptr _ _) rfl) ?_
    refine .gt rfl rfl rfl (fun hc => tl1 24 (.opt hc)) (fun hc => q_fa_b rfl underlying70 rfl (by exact sizeOf54) (by decide) rfl (rfl : _ = 38)) ?_
    refine .gt rfl rfl rfl (fun hc => tl1 25 (.opt hc)) (fun hc => q_load_b1 rfl isAgg54 rfl (by exact bsb) rfl) ?_
    refine .gt rfl rfl rfl (fun hc => tl1 26 (.opt hc)) (fun hc => q_len rfl underlying54 (by exact hr.ae.len?)) ?_
    refine .gt rfl rfl rfl (fun hc => tl1 27 (.opt hc)) (fun hc => q_ge rfl rfl rfl) ?_
    refine .pt rfl rfl rfl rfl <|
      .nil ?_
    refine AW.cond rfl (fun c1 => ?_) (fun c1 => ?_)
    · skip
      refine .region <|
        .aI rfl rfl <|
        .nil <|
        .seq <|
        .seq <|
        .region <|
        .mI rfl rfl <|
        .qn rfl rfl rfl <|
        .nil ?_
      refine AW.cond rfl (fun c2 => ?_) (fun c2 => ?_)
      · skip
        refine .seq <|
          .region <|
          .mP rfl rfl <|
          .mI rfl rfl <|
          .nP rfl rfl <|
          .fb rfl f70_40 rfl rfl ?_
        refine AOps.s0 rfl rfl (a_store1 rfl sizeOf3 rfl (by exact bsb) (rfl : _ = V.int _ _) rfl rfl (by first | decide | exact Nat.le_of_ble_eq_true rfl) ?_)
        refine .nil ?_
        refine AW.ret ?_
        obtain ⟨h2, h3⟩ := rdo_full c1
        exact retQ.mk .none ⟨rfl, by rw [Em.rdo, if_neg (by simpa using he1), if_neg (by simpa using h2), if_neg (by omega), Hp.setBox_setBox]; exact ⟨ve, vp, ⟨hr.ae, hr.ap, hr.fp, hr.fe, hr.fi⟩, rfl⟩⟩
      · cases c2
    · skip
      refine AW.skip ?_
      refine .seq <|
        .seq <|
        .region <|
        .mI rfl rfl <|
        .qn rfl rfl rfl <|
        .nil ?_
      refine AW.cond rfl (fun c3 => ?_) (fun c3 => ?_)
      · skip
        refine .seq <|
          .region <|
          .mP rfl rfl <|
          .mI rfl rfl <|
          .nP rfl rfl <|
          .fb rfl f70_40 rfl rfl ?_
        refine AOps.s0 rfl rfl (a_store1 rfl sizeOf3 rfl (by exact bsb) (rfl : _ = V.int _ _) rfl rfl (by first | decide | exact Nat.le_of_ble_eq_true rfl) ?_)
        refine .nil ?_
        refine AW.ret ?_
        exact retQ.mk .none ⟨rfl, by rw [Em.rdo, if_neg (by simpa using he1), if_pos (by simpa using c3), Hp.setBox_setBox]; exact ⟨ve, vp, ⟨hr.ae, hr.ap, hr.fp, hr.fe, hr.fi⟩, rfl⟩⟩
      · skip
        refine AW.skip ?_
        refine .seq <|
          .region <|
          .mP rfl rfl <|
          .lw rfl isAgg29 sizeOf29 rfl rfl <|
          .nP rfl rfl <|
          .fb rfl f70_0 rfl rfl ?_
        refine AOps.s0 rfl rfl (a_storeA rfl sizeOf29 rfl (by exact bsb) (rfl : _ = V.agg _) rfl (by first | decide | exact Nat.le_of_ble_eq_true rfl) ?_)
        refine .nil ?_
        refine AW.hp (h' := (addTok ve (addTok vp h0)).setBox id (gCells ⟨appSt g.now x, g.draws, g.evs, g.pend, g.err⟩ ve vp)) (by rw [Hp.setBox_setBox]; rfl) ?_
        refine AW.draw [7, 10] [0, 1, 2, 3, 5, 8] [(0, true), (1, true), (2, true), (3, true), (4, true), (5, true), (6, true), (7, false), (8, true), (9, true), (10, false)] mixed (by kernel_rfl) rfl (by kernel_rfl) ?_
        refine .p rfl rfl rfl (fun _ => q_mv rfl (rfl : _ = V.ptr _ _)) ?_
        refine .p rfl rfl rfl (fun _ => q_mv rfl (rfl : _ = V.ptr _ _)) ?_
        refine .p rfl rfl rfl (fun _ => q_nc rfl (rfl : _ = V.ptr _ _) rfl) ?_
        refine .p rfl rfl rfl (fun _ => q_fa_b rfl underlying70 rfl (by exact sizeOf54) (by decide) rfl (rfl : _ = 38)) ?_
        refine .q rfl rfl rfl rfl (q_load_b1 rfl isAgg54 rfl (by exact bsb) rfl) ?_
        refine .p rfl rfl rfl (fun _ => q_load_iW rfl isAgg84 sizeOf84 rfl (by rfl)) ?_
        refine .q rfl rfl rfl rfl (q_buildSl rfl underlying54 sizeOf84 zeroValue84 rfl rfl rfl rfl rfl) ?_
        refine AOrd.s rfl rfl rfl rfl (a_append rfl underlying54 (i := t84) (by kernel_rfl) rfl (n := 6) (by' := 48) rfl rfl rfl rfl (em_acc_e hr _) rfl rfl (by decide) (by show (g.evs.length + 1) * 48 ≤ _; omega) (by show g.evs.length + 1 ≤ _; omega) rfl (fun v3 h3 acc => ?_))
        obtain ⟨hb3, hc3, hs3, hr3⟩ := em_app_e hr acc (appSt g.now x) g.err
        refine .p rfl rfl rfl (fun _ => q_nc rfl (rfl : _ = V.ptr _ _) rfl) ?_
        refine .q rfl rfl rfl rfl (q_fa_b rfl underlying70 rfl (by exact sizeOf54) (by decide) rfl (rfl : _ = 38)) ?_
        refine AOrd.s0 rfl rfl rfl rfl (a_store1 rfl sizeOf54 rfl (by exact hb3) (rfl : _ = v3) hc3.1 hc3.2 (by exact Nat.le_of_ble_eq_true rfl) ?_)
        refine AOrd.nil ?_
        have h2 : (evDo g.now x).2 = 0 := by simpa using c3
        exact retQ.mk .none ⟨rfl, by rw [Em.rdo, if_neg (by simpa using he1), if_neg (by simpa using h2), if_pos (rdo_room c1 h2)]; exact ⟨v3, vp, hr3, hs3 _⟩⟩

def Em.rset (g : Em) (i f n : Int) : Em :=
  if evCheck ⟨2, i, f, 0, n, 0⟩ = 0 ∧ i < g.now.objs.length then (if g.now.objs.getD i.toNat noObj f.toNat = n then g else g.rdo ⟨2, i, f, g.now.objs.getD i.toNat noObj f.toNat, n, 0⟩) else g.rdo ⟨2, i, f, 0, n, 0⟩
def Em.rgame (g : Em) (f n : Int) : Em :=
  if evCheck ⟨4, 0, f, 0, n, 0⟩ = 0 then (if g.now.game f.toNat = n then g else g.rdo ⟨4, 0, f, g.now.game f.toNat, n, 0⟩) else g.rdo ⟨4, 0, f, 0, n, 0⟩
def Em.rdoL (g : Em) (l : List Ev) : Em := l.foldl Em.rdo g
def Em.rshow (g : Em) (i p : Int) : Em := g.rdoL (changeF g.now i p true)
theorem rdoL_next {g : Em} {l : List Ev} {i : Nat} (hi : i < l.length) : g.rdoL (l.take (i + 1)) = (g.rdoL (l.take i)).rdo (l.getD i noEv) := by
  rw [getD_of' hi, Em.rdoL, Em.rdoL, List.take_add_one, List.getElem?_eq_getElem hi, List.foldl_append]; rfl
theorem rdoL_inv {g : Em} {l : List Ev} (hk : ∀ x ∈ l, x.k ≠ 0) (h : GI g) : GI (g.rdoL l) := by
  induction l generalizing g with
  | nil => exact h
  | cons x l ih => exact ih (g := g.rdo x) (fun y hy => hk y (by simp [hy])) (rdo_inv (hk x (by simp)) h)
theorem rset_inv {g : Em} {i f n : Int} (h : GI g) : GI (g.rset i f n) := by
  unfold Em.rset; split
  · split
    · exact h
    · exact rdo_inv (by simp) h
  · exact rdo_inv (by simp) h
theorem rset_sm {g : Em} {i f n : Int} (h : Sm g.now) : Sm (g.rset i f n).now := by
  unfold Em.rset; split
  · split
    · exact h
    · exact rdo_sm h
  · exact rdo_sm h
theorem rdoL_sm {g : Em} {l : List Ev} (h : Sm g.now) : Sm (g.rdoL l).now := by
  induction l generalizing g with
  | nil => exact h
  | cons x l ih => exact ih (g := g.rdo x) (rdo_sm h)
theorem rgame_inv {g : Em} {f n : Int} (h : GI g) : GI (g.rgame f n) := by
  unfold Em.rgame; split
  · split
    · exact h
    · exact rdo_inv (by simp) h
  · exact rdo_inv (by simp) h
theorem rshow_inv {g : Em} {i p : Int} (h : GI g) : GI (g.rshow i p) := rdoL_inv (fun x hx => (turnF_k.1 x hx).1) h
theorem and_bits {a b : Bool} (h : (bif a then b else false) = true) : a = true ∧ b = true := by cases a <;> simp_all
theorem nand_bits {a b : Bool} (h : (bif a then b else false) = false) : a = false ∨ b = false := by cases a <;> simp_all

theorem rset_calls (i f n : Int) {h0 : Hp} {id : Nat} {g : Em} {h : Hp} (he : GAt h0 id g h) (hI : GI g) : ACalls prog G 97 [.ptr id 0, .int .i64 i, .int .i64 f, .int .i64 n] h fun r h' => r = .tup [] ∧ GAt h0 id (g.rset i f n) h' := by
  obtain ⟨ve, vp, hr, rfl⟩ := he
  refine ACalls.enter func97 rfl ntmps97 results97 rfl ?_
  refine .seq <|
    .region <|
    .mI rfl rfl <|
    .mI rfl rfl <|
    .mI rfl rfl ?_
  refine .u rfl rfl rfl (q_buildS (ds := cEv ⟨2, i, f, 0, n, 0⟩) rfl zeroValue84 underlying84 (pl84 underlying84) rfl (by kernel_rfl)) ?_
  refine AOps.s rfl rfl rfl (a_alloc rfl zeroValue84 rfl (fun id8 hid8 => ?_))
  refine .sw sizeOf84 rfl rfl rfl rfl <|
    .nil <|
    .seq <|
    .seq ?_
  have ne8 : id ≠ id8 := Hp.ne_of_box (Hp.box_setBox _ _ _) hid8.1
  refine .region ?_
  refine .u rfl rfl rfl (q_load_bW rfl isAgg84 sizeOf84 (by decide) rfl (by first | exact Hp.box_setBox _ _ _ | exact (Hp.box_setBox_ne _ _ ne8).trans (Hp.box_setBox _ _ _)) (by rfl)) ?_
  refine .u rfl rfl rfl (QOp.call rfl call66 fun h' hl' => by exact refEv_calls ⟨2, i, f, 0, n, 0⟩ h') ?_
  refine .qe rfl rfl rfl <|
    .mB rfl rfl ?_
  refine .gt rfl rfl rfl (fun _ => tl0) (fun hc => q_mv rfl (rfl : _ = V.int _ _)) ?_
  refine .gt rfl rfl rfl (fun _ => tl0) (fun hc => q_mv rfl (rfl : _ = V.ptr _ _)) ?_
  refine .gt rfl rfl rfl (fun hc => tl1 18 (.opt hc)) (fun hc => q_nc rfl (rfl : _ = V.ptr _ _) rfl) ?_
  refine .gt rfl rfl rfl (fun hc => tl1 19 (.opt hc)) (fun hc => q_fa_b rfl underlying70 rfl (by exact sizeOf29) (by decide) rfl (rfl : _ = 0)) ?_
  refine .gt rfl rfl rfl (fun hc => tl1 20 (.opt hc)) (fun hc => q_fa_b rfl underlying29 rfl (by exact sizeOf22) (by decide) rfl (rfl : _ = 0)) ?_
  refine .gt rfl rfl rfl (fun hc => tl1 21 (.opt hc)) (fun hc => q_load_b1 rfl isAgg22 rfl (by first | exact Hp.box_setBox _ _ _ | exact (Hp.box_setBox_ne _ _ ne8).trans (Hp.box_setBox _ _ _)) rfl) ?_
  refine .gt rfl rfl rfl (fun hc => tl1 22 (.opt hc)) (fun hc => q_len rfl underlying22 rfl) ?_
  refine .gt rfl rfl rfl (fun hc => tl2 23 17 (.opt hc) (.opt hc)) (fun hc => q_lt rfl rfl rfl) ?_
  refine .pt rfl rfl rfl rfl <|
    .nil ?_
  refine AW.cond rfl (fun c0 => ?_) (fun c0 => ?_)
  · obtain ⟨hc, hlt⟩ := and_bits c0
    have hc : evCheck ⟨2, i, f, 0, n, 0⟩ = 0 := by simpa using hc
    have hlt : i < g.now.objs.length := by simpa using hlt
    have ok := (evCheck_ok hc).2.2.1 rfl
    have ok1 : 0 ≤ i := ok.1
    have ok2 : 0 ≤ f := ok.2.1
    have ok3 : f < 18 := ok.2.2
    refine .seq <|
      .region <|
      .mP rfl rfl <|
      .nP rfl rfl <|
      .fb rfl f70_0 rfl rfl <|
      .fb rfl f29_0 rfl rfl ?_
    refine .u rfl rfl rfl (q_load_b1 rfl isAgg22 rfl (by first | exact Hp.box_setBox _ _ _ | exact (Hp.box_setBox_ne _ _ ne8).trans (Hp.box_setBox _ _ _)) rfl) ?_
    refine .mI rfl rfl <|
      .mI rfl rfl ?_
    refine .u rfl rfl rfl (q_ia_s rfl underlying22 sizeOf49 rfl rfl (by omega) (by omega) (cObjs_elem' (by omega) (by omega))) ?_
    refine .u rfl rfl rfl (q_ia_ai rfl underlying49 sizeOf3 rfl rfl (by omega) (by omega) rfl) ?_
    refine .u rfl rfl rfl (q_load_i1 rfl isAgg3 rfl (objp_ix ok2 ok3)) ?_
    refine .fb rfl f84_3 rfl rfl ?_
    refine AOps.s0 rfl rfl (a_store1 rfl sizeOf3 rfl (by first | exact Hp.box_setBox _ _ _ | exact (Hp.box_setBox_ne _ _ ne8).trans (Hp.box_setBox _ _ _)) (rfl : _ = V.int _ _) rfl rfl (by first | decide | exact Nat.le_of_ble_eq_true rfl) ?_)
    refine .nil <|
      .seq <|
      .region <|
      .fb rfl f84_3 rfl rfl ?_
    refine .u rfl rfl rfl (q_load_b1 rfl isAgg3 rfl (by first | exact Hp.box_setBox _ _ _ | exact (Hp.box_setBox_ne _ _ ne8).trans (Hp.box_setBox _ _ _)) rfl) ?_
    refine .mI rfl rfl <|
      .qe rfl rfl rfl <|
      .nil ?_
    refine AW.cond rfl (fun c1 => ?_) (fun c1 => ?_)
    · skip
      refine AW.ret ?_
      exact retQ.mk' .none (VLe.refl _) (HLe.over (HLe.setBox hid8.1) hid8.1) ⟨rfl, by rw [Em.rset, if_pos ⟨hc, hlt⟩, if_pos (by simpa using c1)]; exact ⟨ve, vp, hr, rfl⟩⟩
    · skip
      refine AW.skip ?_
      first | (refine AW.hp (h' := ((addTok ve (addTok vp h0)).setBox id (gCells g ve vp)).setBox id8 (cEv ⟨2, i, f, g.now.objs.getD i.toNat noObj f.toNat, n, 0⟩)) (by first | rfl | (rw [Hp.setBox_setBox]; rfl)) ?_; refine AW.done 8 rfl hid8 ?_) | (refine AW.hp (h' := ((addTok ve (addTok vp h0)).setBox id (gCells g ve vp)).setBox id8 (cEv ⟨2, i, f, 0, n, 0⟩)) (by first | rfl | (rw [Hp.setBox_setBox]; rfl)) ?_; refine AW.done 8 rfl hid8 ?_)
      refine .region <|
        .mP rfl rfl <|
        .lw rfl isAgg84 sizeOf84 rfl rfl ?_
      refine AOps.s rfl rfl rfl ((AStep.call rfl (by exact call67) (rdo_calls ⟨2, i, f, _, n, 0⟩ (by simp) ⟨ve, vp, hr, rfl⟩ hI)).mono ?_)
      rintro x3 h3 ⟨rfl, he3⟩
      refine .nil ?_
      exact retQ.mk .none ⟨rfl, by rw [Em.rset, if_pos ⟨hc, hlt⟩, if_neg (by simpa using c1)]; exact he3⟩
  · have hno : ¬ (evCheck ⟨2, i, f, 0, n, 0⟩ = 0 ∧ i < g.now.objs.length) := fun ⟨a, b⟩ => by simp [a, b] at c0
    refine AW.skip ?_
    first | (refine AW.hp (h' := ((addTok ve (addTok vp h0)).setBox id (gCells g ve vp)).setBox id8 (cEv ⟨2, i, f, g.now.objs.getD i.toNat noObj f.toNat, n, 0⟩)) (by first | rfl | (rw [Hp.setBox_setBox]; rfl)) ?_; refine AW.done 8 rfl hid8 ?_) | (refine AW.hp (h' := ((addTok ve (addTok vp h0)).setBox id (gCells g ve vp)).setBox id8 (cEv ⟨2, i, f, 0, n, 0⟩)) (by first | rfl | (rw [Hp.setBox_setBox]; rfl)) ?_; refine AW.done 8 rfl hid8 ?_)
    refine .region <|
      .mP rfl rfl <|
      .lw rfl isAgg84 sizeOf84 rfl rfl ?_
    refine AOps.s rfl rfl rfl ((AStep.call rfl (by exact call67) (rdo_calls ⟨2, i, f, _, n, 0⟩ (by simp) ⟨ve, vp, hr, rfl⟩ hI)).mono ?_)
    rintro x3 h3 ⟨rfl, he3⟩
    refine .nil ?_
    exact retQ.mk .none ⟨rfl, by rw [Em.rset, if_neg hno]; exact he3⟩

theorem rgame_calls (f n : Int) {h0 : Hp} {id : Nat} {g : Em} {h : Hp} (he : GAt h0 id g h) (hI : GI g) : ACalls prog G 42 [.ptr id 0, .int .i64 f, .int .i64 n] h fun r h' => r = .tup [] ∧ GAt h0 id (g.rgame f n) h' := by
  obtain ⟨ve, vp, hr, rfl⟩ := he
  refine ACalls.enter func42 rfl ntmps42 results42 rfl ?_
  refine .seq <|
    .region <|
    .mI rfl rfl <|
    .mI rfl rfl ?_
  refine .u rfl rfl rfl (q_buildS (ds := cEv ⟨4, 0, f, 0, n, 0⟩) rfl zeroValue84 underlying84 (pl84 underlying84) rfl (by kernel_rfl)) ?_
  refine AOps.s rfl rfl rfl (a_alloc rfl zeroValue84 rfl (fun id6 hid6 => ?_))
  refine .sw sizeOf84 rfl rfl rfl rfl <|
    .nil <|
    .seq <|
    .seq ?_
  have ne8 : id ≠ id6 := Hp.ne_of_box (Hp.box_setBox _ _ _) hid6.1
  refine .region ?_
  refine .u rfl rfl rfl (q_load_bW rfl isAgg84 sizeOf84 (by decide) rfl (by first | exact Hp.box_setBox _ _ _ | exact (Hp.box_setBox_ne _ _ ne8).trans (Hp.box_setBox _ _ _)) (by rfl)) ?_
  refine .u rfl rfl rfl (QOp.call rfl call66 fun h' hl' => by exact refEv_calls ⟨4, 0, f, 0, n, 0⟩ h') ?_
  refine .qe rfl rfl rfl <|
    .nil ?_
  refine AW.cond rfl (fun c0 => ?_) (fun c0 => ?_)
  · have hc : evCheck ⟨4, 0, f, 0, n, 0⟩ = 0 := by simpa using c0
    have ok := (evCheck_ok hc).2.2.2.2 (by simp)
    have ok1 : 0 ≤ f := ok.1
    have ok2 : f < 7 := ok.2
    refine .seq <|
      .region <|
      .mP rfl rfl <|
      .mI rfl rfl <|
      .nP rfl rfl <|
      .fb rfl f70_0 rfl rfl <|
      .fb rfl f29_30 rfl rfl ?_
    refine .u rfl rfl rfl (q_ia_ab rfl underlying27 sizeOf3 rfl rfl (by omega) (by omega)) ?_
    refine .u rfl rfl rfl (q_load_b1 rfl isAgg3 rfl (by first | exact Hp.box_setBox _ _ _ | exact (Hp.box_setBox_ne _ _ ne8).trans (Hp.box_setBox _ _ _)) (st_game_ix ok1 ok2)) ?_
    refine .fb rfl f84_3 rfl rfl ?_
    refine AOps.s0 rfl rfl (a_store1 rfl sizeOf3 rfl (by first | exact Hp.box_setBox _ _ _ | exact (Hp.box_setBox_ne _ _ ne8).trans (Hp.box_setBox _ _ _)) (rfl : _ = V.int _ _) rfl rfl (by first | decide | exact Nat.le_of_ble_eq_true rfl) ?_)
    refine .nil <|
      .seq <|
      .region <|
      .fb rfl f84_3 rfl rfl ?_
    refine .u rfl rfl rfl (q_load_b1 rfl isAgg3 rfl (by first | exact Hp.box_setBox _ _ _ | exact (Hp.box_setBox_ne _ _ ne8).trans (Hp.box_setBox _ _ _)) rfl) ?_
    refine .mI rfl rfl <|
      .qe rfl rfl rfl <|
      .nil ?_
    refine AW.cond rfl (fun c1 => ?_) (fun c1 => ?_)
    · skip
      refine AW.ret ?_
      exact retQ.mk' .none (VLe.refl _) (HLe.over (HLe.setBox hid6.1) hid6.1) ⟨rfl, by rw [Em.rgame, if_pos hc, if_pos (by simpa using c1)]; exact ⟨ve, vp, hr, rfl⟩⟩
    · skip
      refine AW.skip ?_
      first | (refine AW.hp (h' := ((addTok ve (addTok vp h0)).setBox id (gCells g ve vp)).setBox id6 (cEv ⟨4, 0, f, g.now.game f.toNat, n, 0⟩)) (by first | rfl | (rw [Hp.setBox_setBox]; rfl)) ?_; refine AW.done 6 rfl hid6 ?_) | (refine AW.hp (h' := ((addTok ve (addTok vp h0)).setBox id (gCells g ve vp)).setBox id6 (cEv ⟨4, 0, f, 0, n, 0⟩)) (by first | rfl | (rw [Hp.setBox_setBox]; rfl)) ?_; refine AW.done 6 rfl hid6 ?_)
      refine .region <|
        .mP rfl rfl <|
        .lw rfl isAgg84 sizeOf84 rfl rfl ?_
      refine AOps.s rfl rfl rfl ((AStep.call rfl (by exact call67) (rdo_calls ⟨4, 0, f, _, n, 0⟩ (by simp) ⟨ve, vp, hr, rfl⟩ hI)).mono ?_)
      rintro x3 h3 ⟨rfl, he3⟩
      refine .nil ?_
      exact retQ.mk .none ⟨rfl, by rw [Em.rgame, if_pos hc, if_neg (by simpa using c1)]; exact he3⟩
  · have hno : ¬ evCheck ⟨4, 0, f, 0, n, 0⟩ = 0 := by simpa using c0
    refine AW.skip ?_
    first | (refine AW.hp (h' := ((addTok ve (addTok vp h0)).setBox id (gCells g ve vp)).setBox id6 (cEv ⟨4, 0, f, g.now.game f.toNat, n, 0⟩)) (by first | rfl | (rw [Hp.setBox_setBox]; rfl)) ?_; refine AW.done 6 rfl hid6 ?_) | (refine AW.hp (h' := ((addTok ve (addTok vp h0)).setBox id (gCells g ve vp)).setBox id6 (cEv ⟨4, 0, f, 0, n, 0⟩)) (by first | rfl | (rw [Hp.setBox_setBox]; rfl)) ?_; refine AW.done 6 rfl hid6 ?_)
    refine .region <|
      .mP rfl rfl <|
      .lw rfl isAgg84 sizeOf84 rfl rfl ?_
    refine AOps.s rfl rfl rfl ((AStep.call rfl (by exact call67) (rdo_calls ⟨4, 0, f, _, n, 0⟩ (by simp) ⟨ve, vp, hr, rfl⟩ hI)).mono ?_)
    rintro x3 h3 ⟨rfl, he3⟩
    refine .nil ?_
    exact retQ.mk .none ⟨rfl, by rw [Em.rgame, if_neg hno]; exact he3⟩

theorem rshow_calls (i p : Int) {h0 : Hp} {id : Nat} {g : Em} {h : Hp} (he : GAt h0 id g h) (hI : GI g) (hS : Sm g.now) : ACalls prog G 98 [.ptr id 0, .int .i64 i, .int .i64 p] h fun r h' => r = .tup [] ∧ GAt h0 id (g.rshow i p) h' := by
  obtain ⟨ve, vp, hr, rfl⟩ := he
  have hcl : (changeF g.now i p true).length ≤ 1000 := (turnF_k (s := g.now) (i := i) (g := fun was => chgUp was p true 2)).2
  have hck := (turnF_k (s := g.now) (i := i) (g := fun was => chgUp was p true 2)).1
  refine ACalls.enter func98 rfl ntmps98 results98 rfl ?_
  refine .seq <|
    .region <|
    .mP rfl rfl <|
    .nP rfl rfl <|
    .fb rfl f70_0 rfl rfl ?_
  refine .u rfl rfl rfl (q_load_bN (ds := cState g.now) rfl isAgg29 sizeOf29 (by decide) rfl (by exact bsb) rfl rfl) ?_
  refine .mI rfl rfl <|
    .mI rfl rfl ?_
  refine .u rfl rfl rfl (QOp.call rfl call124 fun h' hl' => by exact changeR_calls g.now i p true hS.know h') ?_
  refine .ln rfl underlying54 rfl <|
    .mI rfl rfl <|
    .nil <|
    .block ?_
  refine AW.loop (fun n T hh => ∃ (k : Nat) , k ≤ (changeF g.now i p true).length ∧ n = (changeF g.now i p true).length - k ∧ T = put (put (put (put (T0) 16 (V.int .i64 (k : Nat))) 15 (V.int .i64 (changeF g.now i p true).length)) 14 (eEvs (changeF g.now i p true))) 0 (V.ptr id 0) ∧ GAt h0 id (g.rdoL ((changeF g.now i p true).take k)) hh) ((changeF g.now i p true).length) ?_ ?_
  · skip
    refine Wk.mk (TLe.put (d := 0) (VLe.refl _) (TLe.put (d := 14) (VLe.refl _) (TLe.put (d := 15) (VLe.refl _) (TLe.put (d := 16) (by exact VLe.of_eq (congrArg (V.int .i64) (by first | rfl | omega))) (TLe.zero _))))) (HLe.refl _) ⟨0, Nat.zero_le _, rfl, rfl, by rw [List.take_zero]; exact ⟨ve, vp, hr, rfl⟩⟩
  · skip
    rintro n T h' ⟨k, hk, rfl, rfl, hem⟩
    refine .seq <|
      .region <|
      .ql rfl rfl rfl <|
      .nil <|
      .seq ?_
    refine AW.cond rfl (fun c0 => ?_) (fun c0 => ?_)
    · have hltk : k < (changeF g.now i p true).length := by have := of_decide_eq_true c0; omega
      refine AW.skip ?_
      refine .seq <|
        .block <|
        .seq <|
        .region ?_
      refine .u rfl rfl rfl (q_ia_s rfl underlying54 sizeOf84 rfl rfl (by omega) (by omega) (cEvs_at hltk)) ?_
      refine .lw rfl isAgg84 sizeOf84 rfl rfl ?_
      refine AOps.s rfl rfl rfl (a_alloc rfl zeroValue84 rfl (fun id7 hid7 => ?_))
      refine .sw sizeOf84 rfl rfl rfl rfl ?_
      refine AOps.done 7 rfl hid7 ?_
      refine .nil <|
        .region <|
        .mP rfl rfl <|
        .lw rfl isAgg84 sizeOf84 rfl rfl ?_
      refine AOps.s rfl rfl rfl ((AStep.call rfl (by exact call67) (rdo_calls ((changeF g.now i p true).getD k noEv) (hck _ (evs_mem hltk)) hem (rdoL_inv (fun x hx => (hck x (List.mem_of_mem_take hx)).1) hI))).mono ?_)
      rintro x3 h3 ⟨rfl, he3⟩
      refine .nil <|
        .region <|
        .ad rfl rfl rfl (by omega) <|
        .mI rfl rfl <|
        .nil ?_
      refine Wk.mk (TLe.put (d := 0) (VLe.refl _) (TLe.put (d := 14) (VLe.refl _) (TLe.put (d := 15) (VLe.refl _) (TLe.put (d := 16) (by exact VLe.of_eq (congrArg (V.int .i64) (by first | rfl | omega))) (TLe.zero _))))) (HLe.refl _) ⟨_, ?_, k + 1, ?_, rfl, rfl, by rw [rdoL_next hltk]; exact he3⟩
      · omega
      · omega
    · obtain rfl : k = (changeF g.now i p true).length := by have := of_decide_eq_false c0; omega
      refine AW.exit ?_
      rw [List.take_length] at hem
      exact retQ.mk .none ⟨rfl, hem⟩

end Go.Proofs.YtnbmcbkokaoapaaGreatDoor
/- Walks: the document's emitter: putting; a new one. -/
namespace Go.Proofs.YtnbmcbkokaoapaaGreatDoor
open Go Go.AV Go.Proofs.Tryz
set_option maxRecDepth 100000
set_option maxHeartbeats 1000000
theorem card_bad {n : Int} (h : (cardE n).2 ≠ 0) : (cardE n).2 = 4 := by
  unfold cardE at *; split
  · rfl
  · rename_i g; rw [if_neg g] at h; exact absurd rfl h
theorem fail_zero {m : Em} : m.fail 0 = m := by
  unfold Em.fail; split
  · rename_i h; cases m; simp_all
  · rfl
theorem add_snoc {m : Em} {i ctl k : Int} {l : List Int} : m.add i ctl (l ++ [k]) = ⟨(m.add i ctl l).now, (m.add i ctl l).draws, (m.add i ctl l).evs, (m.add i ctl l).pend ++ [⟨i, k, ctl⟩], (m.add i ctl l).err⟩ := by
  simp [Em.add]

theorem rawait_calls (i w ctl : Int) {h0 : Hp} {id : Nat} {g : Em} {h : Hp} (he : GAt h0 id g h) (hi : 0 ≤ i ∧ i < g.now.objs.length) (hp : g.pend.length ≤ 1000000) : ACalls prog G 100 [.ptr id 0, .int .i64 i, .int .i64 w, .int .i64 ctl] h fun r h' => r = .tup [] ∧ GAt h0 id (g.awaitF i w ctl) h' := by
  obtain ⟨ve, vp, hr, rfl⟩ := he
  obtain ⟨cd, hcd⟩ : ∃ cd, cd = cardE (g.now.objs.getD i.toNat noObj 0) := ⟨_, rfl⟩
  have habs : cd.1.abs.length ≤ 1000 := by rw [hcd]; have := cardE_abs (g.now.objs.getD i.toNat noObj 0); omega
  have hpf : (g.fail cd.2).pend.length ≤ 1000000 := by unfold Em.fail; split <;> exact hp
  refine ACalls.enter func100 rfl ntmps100 results100 rfl ?_
  refine .seq <|
    .region <|
    .mP rfl rfl <|
    .nP rfl rfl <|
    .fb rfl f70_0 rfl rfl <|
    .fb rfl f29_0 rfl rfl <|
    .lb rfl isAgg22 rfl rfl <|
    .mI rfl rfl ?_
  refine .u rfl rfl rfl (q_ia_s rfl underlying22 sizeOf49 rfl rfl (by omega) (by omega) (cObjs_elem' (by omega) (by omega))) ?_
  refine .u rfl rfl rfl (q_ia_ai rfl underlying49 sizeOf3 rfl rfl (by decide) (by decide) rfl) ?_
  refine .li rfl isAgg3 rfl rfl ?_
  refine .u rfl rfl rfl (QOp.call (x := .tup [eCard cd.1, .bool (cd.2 == 0)]) rfl (by exact call90) fun h' hl' => by rw [hcd]; exact refCard_calls _ h') ?_
  refine .u rfl rfl rfl (q_mv rfl (rfl : _ = V.tup _)) ?_
  refine .u rfl rfl rfl (q_extract rfl rfl rfl) ?_
  refine .u rfl rfl rfl (q_extract rfl rfl rfl) ?_
  refine AOps.s rfl rfl rfl (a_alloc rfl zeroValue92 rfl (fun id8 hid8 => ?_))
  refine .sw sizeOf92 rfl rfl rfl rfl ?_
  refine AOps.done 8 rfl hid8 ?_
  refine .aB rfl rfl <|
    .nil ?_
  refine AW.cut (fun T h1 => T = put (put (put (put (put (T0) 0 (V.ptr id 0)) 1 (V.int .i64 i)) 2 (V.int .i64 w)) 3 (V.int .i64 ctl)) 8 (V.iptr (cCard cd.1)) ∧ GAt h0 id (g.fail cd.2) h1) ?_ ?_
  · skip
    refine .seq <|
      .region <|
      .mB rfl rfl <|
      .nt rfl rfl <|
      .nil ?_
    refine AW.cond rfl (fun c0 => ?_) (fun c0 => ?_)
    · skip
      refine .region <|
        .mP rfl rfl ?_
      refine AOps.s rfl rfl rfl ((AStep.call rfl (by exact call125) (rfail_calls 4 ⟨ve, vp, hr, rfl⟩)).mono ?_)
      rintro x9 h9 ⟨rfl, he9⟩
      refine .nil ?_
      first | exact Wk.mk (TLe.put (d := 8) (VLe.refl _) (TLe.put (d := 3) (VLe.refl _) (TLe.put (d := 2) (VLe.refl _) (TLe.put (d := 1) (VLe.refl _) (TLe.put (d := 0) (VLe.refl _) (TLe.zero _)))))) (HLe.refl _) ⟨rfl, by rw [hcd, card_bad (by rw [← hcd]; simpa using c0)]; exact he9⟩ | exact Wk.mk (TLe.put (d := 8) (VLe.refl _) (TLe.put (d := 3) (VLe.refl _) (TLe.put (d := 2) (VLe.refl _) (TLe.put (d := 1) (VLe.refl _) (TLe.put (d := 0) (VLe.refl _) (TLe.zero _)))))) (HLe.refl _) ⟨rfl, by rw [show cd.2 = 0 by simpa using c0, fail_zero]; exact ⟨ve, vp, hr, rfl⟩⟩
    · skip
      refine AW.skip ?_
      first | exact Wk.mk (TLe.put (d := 8) (VLe.refl _) (TLe.put (d := 3) (VLe.refl _) (TLe.put (d := 2) (VLe.refl _) (TLe.put (d := 1) (VLe.refl _) (TLe.put (d := 0) (VLe.refl _) (TLe.zero _)))))) (HLe.refl _) ⟨rfl, by rw [hcd, card_bad (by rw [← hcd]; simpa using c0)]; exact he9⟩ | exact Wk.mk (TLe.put (d := 8) (VLe.refl _) (TLe.put (d := 3) (VLe.refl _) (TLe.put (d := 2) (VLe.refl _) (TLe.put (d := 1) (VLe.refl _) (TLe.put (d := 0) (VLe.refl _) (TLe.zero _)))))) (HLe.refl _) ⟨rfl, by rw [show cd.2 = 0 by simpa using c0, fail_zero]; exact ⟨ve, vp, hr, rfl⟩⟩
  · rintro T h1 ⟨rfl, he1⟩
    refine .seq <|
      .region <|
      .fi rfl f92_12 rfl <|
      .li rfl isAgg90 rfl rfl <|
      .ln rfl underlying90 rfl <|
      .mI rfl rfl <|
      .nil <|
      .block ?_
    refine AW.loop (fun n T hh => ∃ (q : Nat) , q ≤ cd.1.abs.length ∧ n = cd.1.abs.length - q ∧ T = put (put (put (put (put (put (put (T0) 32 (V.int .i64 (q : Nat))) 31 (V.int .i64 cd.1.abs.length)) 30 (V.sl .imm 14 cd.1.abs.length (cd.1.abs.flatMap cAbil))) 3 (V.int .i64 ctl)) 2 (V.int .i64 w)) 1 (V.int .i64 i)) 0 (V.ptr id 0) ∧ GAt h0 id ((g.fail cd.2).add i ctl (usesUp cd.1 w q)) hh) (cd.1.abs.length) ?_ ?_
    · skip
      refine Wk.mk (TLe.put (d := 0) (VLe.refl _) (TLe.put (d := 1) (VLe.refl _) (TLe.put (d := 2) (VLe.refl _) (TLe.put (d := 3) (VLe.refl _) (TLe.put (d := 30) (VLe.refl _) (TLe.put (d := 31) (VLe.refl _) (TLe.put (d := 32) (by exact VLe.of_eq (congrArg (V.int .i64) (by first | rfl | omega))) (TLe.zero _)))))))) (HLe.refl _) ⟨0, Nat.zero_le _, rfl, rfl, by have e : (g.fail cd.2).add i ctl (usesUp cd.1 w 0) = g.fail cd.2 := (by simp [Em.add, usesUp]); rw [e]; exact he1⟩
    · skip
      rintro n T h' ⟨q, hq, rfl, rfl, hem⟩
      refine .seq <|
        .region <|
        .ql rfl rfl rfl <|
        .nil <|
        .seq ?_
      refine AW.cond rfl (fun c1 => ?_) (fun c1 => ?_)
      · have hltq : q < cd.1.abs.length := by have := of_decide_eq_true c1; omega
        obtain ⟨ve2, vp2, hr2, rfl⟩ := hem
        have hul := uses_le (c := cd.1) (w := w) (i := q)
        have hpl : ((g.fail cd.2).add i ctl (usesUp cd.1 w q)).pend.length ≤ 1002000 := by simp only [Em.add, List.length_append, List.length_map]; omega
        refine AW.skip ?_
        refine .seq <|
          .block <|
          .seq <|
          .region <|
          .mI rfl rfl ?_
        refine .u rfl rfl rfl (q_ia_s rfl underlying90 sizeOf136 rfl rfl (by omega) (by omega) (abil_at hltq)) ?_
        refine .lw rfl isAgg136 sizeOf136 rfl rfl ?_
        refine AOps.s rfl rfl rfl (a_alloc rfl zeroValue136 rfl (fun id11 hid11 => ?_))
        refine .aI rfl rfl <|
          .sw sizeOf136 rfl rfl rfl rfl ?_
        refine AOps.done 11 rfl hid11 ?_
        refine .nil <|
          .seq <|
          .region <|
          .fi rfl f136_0 rfl <|
          .li rfl isAgg3 rfl rfl <|
          .mI rfl rfl <|
          .qe rfl rfl rfl <|
          .nil ?_
        refine AW.cond rfl (fun c2 => ?_) (fun c2 => ?_)
        · skip
          refine .region <|
            .mP rfl rfl <|
            .mP rfl rfl <|
            .nP rfl rfl <|
            .fb rfl f70_39 rfl rfl <|
            .lb rfl isAgg68 rfl rfl <|
            .mI rfl rfl <|
            .mI rfl rfl <|
            .mI rfl rfl ?_
          refine .u rfl rfl rfl (q_buildS (ds := cPd ⟨i, (q : Int), ctl⟩) rfl zeroValue78 underlying78 (pl78 underlying78) rfl (by kernel_rfl)) ?_
          refine .u rfl rfl rfl (q_buildSl (ds := cPd ⟨i, (q : Int), ctl⟩) rfl underlying68 sizeOf78 zeroValue78 rfl rfl rfl rfl (by kernel_rfl)) ?_
          refine AOps.s rfl rfl rfl (a_append rfl underlying68 (i := t78) (by kernel_rfl) rfl (n := 3) (by' := 24) rfl rfl rfl rfl (em_acc_p hr2 _) rfl rfl (by decide) (by omega) (by omega) rfl (fun v3 h3 acc => ?_))
          obtain ⟨hb3, hc3, hs3, hr3⟩ := em_app_p hr2 acc
          refine .nP rfl rfl <|
            .fb rfl f70_39 rfl rfl ?_
          refine AOps.s0 rfl rfl (a_store1 rfl sizeOf68 rfl (by exact hb3) (rfl : _ = v3) hc3.1 hc3.2 (by exact Nat.le_of_ble_eq_true rfl) ?_)
          refine .nil <|
            .region <|
            .ad rfl rfl rfl (by omega) <|
            .mI rfl rfl <|
            .nil ?_
          refine Wk.mk (TLe.put (d := 0) (VLe.refl _) (TLe.put (d := 1) (VLe.refl _) (TLe.put (d := 2) (VLe.refl _) (TLe.put (d := 3) (VLe.refl _) (TLe.put (d := 30) (VLe.refl _) (TLe.put (d := 31) (VLe.refl _) (TLe.put (d := 32) (by exact VLe.of_eq (congrArg (V.int .i64) (by first | rfl | omega))) (TLe.zero _)))))))) (HLe.refl _) ⟨_, ?_, q + 1, ?_, rfl, rfl, by first | (rw [uses_yes (by simpa using c2), add_snoc]; exact ⟨ve2, v3, hr3, hs3 _⟩) | (rw [uses_no (by simpa using c2)]; exact ⟨ve2, vp2, hr2, rfl⟩)⟩
          · omega
          · omega
        · skip
          refine AW.skip ?_
          refine .region <|
            .ad rfl rfl rfl (by omega) <|
            .mI rfl rfl <|
            .nil ?_
          refine Wk.mk (TLe.put (d := 0) (VLe.refl _) (TLe.put (d := 1) (VLe.refl _) (TLe.put (d := 2) (VLe.refl _) (TLe.put (d := 3) (VLe.refl _) (TLe.put (d := 30) (VLe.refl _) (TLe.put (d := 31) (VLe.refl _) (TLe.put (d := 32) (by exact VLe.of_eq (congrArg (V.int .i64) (by first | rfl | omega))) (TLe.zero _)))))))) (HLe.refl _) ⟨_, ?_, q + 1, ?_, rfl, rfl, by first | (rw [uses_yes (by simpa using c2), add_snoc]; exact ⟨ve2, v3, hr3, hs3 _⟩) | (rw [uses_no (by simpa using c2)]; exact ⟨ve2, vp2, hr2, rfl⟩)⟩
          · omega
          · omega
      · obtain rfl : q = cd.1.abs.length := by have := of_decide_eq_false c1; omega
        refine AW.exit ?_
        exact retQ.mk .none ⟨rfl, by rw [Em.awaitF, ← hcd]; exact hem⟩

def Em.rrest (g : Em) (i : Int) (l : List Int) : Em := l.foldl (fun g f => g.rset i f 0) g
theorem rrest_inv {g : Em} {i : Int} {l : List Int} (h : GI g) : GI (g.rrest i l) := by
  induction l generalizing g with
  | nil => exact h
  | cons f l ih => exact ih (g := g.rset i f 0) (rset_inv h)
theorem rrest_next {g : Em} {i : Int} {l : List Int} {k : Nat} (h : k < l.length) : g.rrest i (l.take (k + 1)) = (g.rrest i (l.take k)).rset i (l.getD k 0) 0 := by
  rw [Em.rrest, Em.rrest, List.take_add_one, List.getElem?_eq_getElem h, getD_of h, List.foldl_append]; rfl
theorem rrest_sm {g : Em} {i : Int} {l : List Int} (h : Sm g.now) : Sm (g.rrest i l).now := by
  induction l generalizing g with
  | nil => exact h
  | cons f l ih => exact ih (g := g.rset i f 0) (rset_sm h)
def Em.rput2 (m : Em) (i to : Int) : Em := if to ≠ 8 then m.rrest i restL else m
def Em.rput3 (m : Em) (i to own : Int) : Em := if to < 8 then m.rset i 2 own else m
def Em.rput4 (m : Em) (i to : Int) : Em := if to ≠ 9 then m.rset i 16 0 else m
def Em.rput5 (m : Em) (i fr to : Int) : Em := if to = 8 ∧ fr ≠ 8 then m.rset i 5 1 else m
theorem rput2_inv {m : Em} {i to : Int} (h : GI m) : GI (m.rput2 i to) := by unfold Em.rput2; split <;> first | exact h | exact rrest_inv h
theorem rput3_inv {m : Em} {i to own : Int} (h : GI m) : GI (m.rput3 i to own) := by unfold Em.rput3; split <;> first | exact h | exact rset_inv h
theorem rput4_inv {m : Em} {i to : Int} (h : GI m) : GI (m.rput4 i to) := by unfold Em.rput4; split <;> first | exact h | exact rset_inv h
theorem rput5_inv {m : Em} {i fr to : Int} (h : GI m) : GI (m.rput5 i fr to) := by unfold Em.rput5; split <;> first | exact h | exact rset_inv h
theorem rput25_sm {m : Em} {i to own fr : Int} (h : Sm m.now) : Sm ((((m.rput2 i to).rput3 i to own).rput4 i to).rput5 i fr to).now := by
  have p2 : Sm (m.rput2 i to).now := by unfold Em.rput2; split <;> first | exact rrest_sm h | exact h
  have p3 : Sm ((m.rput2 i to).rput3 i to own).now := by unfold Em.rput3; split <;> first | exact rset_sm p2 | exact p2
  have p4 : Sm (((m.rput2 i to).rput3 i to own).rput4 i to).now := by unfold Em.rput4; split <;> first | exact rset_sm p3 | exact p3
  unfold Em.rput5; split <;> first | exact rset_sm p4 | exact p4
def Em.rput6 (m : Em) (i to : Int) (o : Obj) : Em := ((((m.rput2 i to).rput3 i to (o 1)).rput4 i to).rput5 i (o 3) to).rshow i (knowZoneF to)
def Em.rput7 (m : Em) (i fr to base ctl : Int) : Em :=
  if m.err ≠ 0 then m
  else if to = 8 ∧ fr ≠ 8 then m.awaitF i 2 (m.now.objs.getD i.toNat noObj 2)
  else if fr = 8 ∧ base = 4 then m.awaitF i 3 ctl
  else m
/-- An object is put, by the document. -/
def Em.rputF (m : Em) (i base : Int) : Em :=
  if m.err ≠ 0 then m
  else if inN i m.now.objs.length = false then m.fail 4
  else if basesF base = false then m.fail 12
  else
    let o := m.now.objs.getD i.toNat noObj
    ((m.rdo (putEv m.now i base)).rput6 i (homeF o base) o).rput7 i (o 3) (homeF o base) base (o 2)
theorem bases_bits {b : Int} : (bif (bif (bif (bif (bif (bif b != 0 then b != 2 else false) then b != 4 else false) then b != 6 else false) then b != 8 else false) then b != 9 else false) then b != 10 else false) = !basesF b := by
  by_cases e : b = 0 ∨ b = 2 ∨ b = 4 ∨ b = 6 ∨ b = 8 ∨ b = 9 ∨ b = 10
  · rcases e with e | e | e | e | e | e | e <;> subst e <;> decide
  · have h : basesF b = false := by
      simp only [basesF, zoneF, Bool.or_eq_false_iff, beq_eq_false_iff_ne, decide_eq_false_iff_not]
      refine ⟨⟨⟨by omega, by omega⟩, by omega⟩, ?_⟩
      rw [if_neg (by omega)]; decide
    rw [h]
    have e0 : (b != 0) = true := by simp; omega
    have e2 : (b != 2) = true := by simp; omega
    have e4 : (b != 4) = true := by simp; omega
    have e6 : (b != 6) = true := by simp; omega
    have e8 : (b != 8) = true := by simp; omega
    have e9 : (b != 9) = true := by simp; omega
    have e10 : (b != 10) = true := by simp; omega
    simp [e0, e2, e4, e6, e8, e9, e10]
theorem inN_out {i n : Int} (h : (bif decide (i < 0) then true else decide (n ≤ i)) = true) : inN i n = false := by
  have := turn_out h; simp [inN]; omega
theorem rdo_len {g : Em} {x : Ev} (hk : x.k ≠ 0) : (g.rdo x).now.objs.length = g.now.objs.length := by
  unfold Em.rdo; split
  · rfl
  · split
    · rfl
    · split
      · rename_i h1 _
        show (appSt g.now x).objs.length = _
        rw [appSt, if_pos (by simpa using h1)]; exact evDo_len hk
      · rfl
theorem rset_len {g : Em} {i f n : Int} : (g.rset i f n).now.objs.length = g.now.objs.length := by
  unfold Em.rset; split
  · split
    · rfl
    · exact rdo_len (by simp)
  · exact rdo_len (by simp)
theorem rdoL_len {g : Em} {l : List Ev} (hk : ∀ x ∈ l, x.k ≠ 0) : (g.rdoL l).now.objs.length = g.now.objs.length := by
  induction l generalizing g with
  | nil => rfl
  | cons x l ih => exact (ih (g := g.rdo x) (fun y hy => hk y (by simp [hy]))).trans (rdo_len (hk x (by simp)))
theorem rrest_len {g : Em} {i : Int} {l : List Int} : (g.rrest i l).now.objs.length = g.now.objs.length := by
  induction l generalizing g with
  | nil => rfl
  | cons f l ih => exact (ih (g := g.rset i f 0)).trans rset_len
theorem rput2_len {m : Em} {i to : Int} : (m.rput2 i to).now.objs.length = m.now.objs.length := by unfold Em.rput2; split <;> first | rfl | exact rrest_len
theorem rput3_len {m : Em} {i to own : Int} : (m.rput3 i to own).now.objs.length = m.now.objs.length := by unfold Em.rput3; split <;> first | rfl | exact rset_len
theorem rput4_len {m : Em} {i to : Int} : (m.rput4 i to).now.objs.length = m.now.objs.length := by unfold Em.rput4; split <;> first | rfl | exact rset_len
theorem rput5_len {m : Em} {i fr to : Int} : (m.rput5 i fr to).now.objs.length = m.now.objs.length := by unfold Em.rput5; split <;> first | rfl | exact rset_len
theorem rshow_len {m : Em} {i p : Int} : (m.rshow i p).now.objs.length = m.now.objs.length := rdoL_len fun x hx => (turnF_k.1 x hx).1
theorem rput6_len {m : Em} {i to : Int} {o : Obj} : (m.rput6 i to o).now.objs.length = m.now.objs.length := by
  unfold Em.rput6; rw [rshow_len, rput5_len, rput4_len, rput3_len, rput2_len]
/-! Nothing of this changes what is pending, or the draws. -/
theorem rdo_pend {g : Em} {x : Ev} : (g.rdo x).pend = g.pend ∧ (g.rdo x).draws = g.draws := by
  unfold Em.rdo; split
  · exact ⟨rfl, rfl⟩
  · split
    · exact ⟨rfl, rfl⟩
    · split <;> exact ⟨rfl, rfl⟩
theorem rset_pend {g : Em} {i f n : Int} : (g.rset i f n).pend = g.pend ∧ (g.rset i f n).draws = g.draws := by
  unfold Em.rset; split
  · split
    · exact ⟨rfl, rfl⟩
    · exact rdo_pend
  · exact rdo_pend
theorem rdoL_pend {g : Em} {l : List Ev} : (g.rdoL l).pend = g.pend ∧ (g.rdoL l).draws = g.draws := by
  induction l generalizing g with
  | nil => exact ⟨rfl, rfl⟩
  | cons x l ih => have a := ih (g := g.rdo x); have b := rdo_pend (g := g) (x := x); exact ⟨a.1.trans b.1, a.2.trans b.2⟩
theorem rrest_pend {g : Em} {i : Int} {l : List Int} : (g.rrest i l).pend = g.pend ∧ (g.rrest i l).draws = g.draws := by
  induction l generalizing g with
  | nil => exact ⟨rfl, rfl⟩
  | cons f l ih => have a := ih (g := g.rset i f 0); have b := rset_pend (g := g) (i := i) (f := f) (n := 0); exact ⟨a.1.trans b.1, a.2.trans b.2⟩
theorem rput6_pend {m : Em} {i to : Int} {o : Obj} : (m.rput6 i to o).pend = m.pend ∧ (m.rput6 i to o).draws = m.draws := by
  have p2 : ∀ m : Em, (m.rput2 i to).pend = m.pend ∧ (m.rput2 i to).draws = m.draws := fun m => by unfold Em.rput2; split <;> first | exact ⟨rfl, rfl⟩ | exact rrest_pend
  have p3 : ∀ m : Em, (m.rput3 i to (o 1)).pend = m.pend ∧ (m.rput3 i to (o 1)).draws = m.draws := fun m => by unfold Em.rput3; split <;> first | exact ⟨rfl, rfl⟩ | exact rset_pend
  have p4 : ∀ m : Em, (m.rput4 i to).pend = m.pend ∧ (m.rput4 i to).draws = m.draws := fun m => by unfold Em.rput4; split <;> first | exact ⟨rfl, rfl⟩ | exact rset_pend
  have p5 : ∀ m : Em, (m.rput5 i (o 3) to).pend = m.pend ∧ (m.rput5 i (o 3) to).draws = m.draws := fun m => by unfold Em.rput5; split <;> first | exact ⟨rfl, rfl⟩ | exact rset_pend
  unfold Em.rput6 Em.rshow
  rw [rdoL_pend.1, rdoL_pend.2, (p5 _).1, (p4 _).1, (p3 _).1, (p2 _).1, (p5 _).2, (p4 _).2, (p3 _).2, (p2 _).2]; exact ⟨rfl, rfl⟩

theorem rputF_calls (i base : Int) {h0 : Hp} {id : Nat} {g : Em} {h : Hp} (he : GAt h0 id g h) (hI : GI g) (hS : g.err = 0 → Sm g.now) (hp : g.pend.length ≤ 1000000) : ACalls prog G 65 [.ptr id 0, .int .i64 i, .int .i64 base] h fun r h' => r = .tup [] ∧ GAt h0 id (g.rputF i base) h' := by
  obtain ⟨ve, vp, hr, rfl⟩ := he
  refine ACalls.enter func65 rfl ntmps65 results65 rfl ?_
  refine .seq <|
    .seq <|
    .region <|
    .mP rfl rfl <|
    .nP rfl rfl <|
    .fb rfl f70_40 rfl rfl <|
    .lb rfl isAgg3 rfl rfl <|
    .qn rfl rfl rfl <|
    .nil ?_
  refine AW.cond rfl (fun c0 => ?_) (fun c0 => ?_)
  · skip
    refine AW.ret ?_
    exact retQ.mk .none ⟨rfl, by rw [Em.rputF, if_pos (by simpa using c0)]; exact ⟨ve, vp, hr, rfl⟩⟩
  · have hz : g.err = 0 := by simpa using c0
    refine AW.skip ?_
    refine .seq <|
      .seq <|
      .region <|
      .mI rfl rfl <|
      .ql rfl rfl rfl <|
      .mB rfl rfl ?_
    refine .gf rfl rfl rfl (fun _ => tl0) (fun hc => q_mv rfl (rfl : _ = V.int _ _)) ?_
    refine .gf rfl rfl rfl (fun _ => tl0) (fun hc => q_mv rfl (rfl : _ = V.ptr _ _)) ?_
    refine .gf rfl rfl rfl (fun hc => tl1 21 (.opt hc)) (fun hc => q_nc rfl (rfl : _ = V.ptr _ _) rfl) ?_
    refine .gf rfl rfl rfl (fun hc => tl1 22 (.opt hc)) (fun hc => q_fa_b rfl underlying70 rfl (by exact sizeOf29) (by decide) rfl (rfl : _ = 0)) ?_
    refine .gf rfl rfl rfl (fun hc => tl1 23 (.opt hc)) (fun hc => q_fa_b rfl underlying29 rfl (by exact sizeOf22) (by decide) rfl (rfl : _ = 0)) ?_
    refine .gf rfl rfl rfl (fun hc => tl1 24 (.opt hc)) (fun hc => q_load_b1 rfl isAgg22 rfl (by exact bsb) rfl) ?_
    refine .gf rfl rfl rfl (fun hc => tl1 25 (.opt hc)) (fun hc => q_len rfl underlying22 rfl) ?_
    refine .gf rfl rfl rfl (fun hc => tl2 26 20 (.opt hc) (.opt hc)) (fun hc => q_ge rfl rfl rfl) ?_
    refine .pf rfl rfl rfl rfl <|
      .nil ?_
    refine AW.cond rfl (fun c1 => ?_) (fun c1 => ?_)
    · have hni := inN_out c1
      refine .seq <|
        .region <|
        .mP rfl rfl <|
        .nP rfl rfl <|
        .fb rfl f70_40 rfl rfl ?_
      refine AOps.s0 rfl rfl (a_store1 rfl sizeOf3 rfl (by exact bsb) (rfl : _ = V.int _ _) rfl rfl (by first | decide | exact Nat.le_of_ble_eq_true rfl) ?_)
      refine .nil ?_
      refine AW.ret ?_
      exact retQ.mk .none ⟨rfl, by rw [Em.rputF, if_neg (by simpa using hz), if_pos hni, Em.fail, if_pos hz, Hp.setBox_setBox]; exact ⟨ve, vp, ⟨hr.ae, hr.ap, hr.fp, hr.fe, hr.fi⟩, rfl⟩⟩
    · have hi := turn_in c1
      have hni : inN i g.now.objs.length = true := by simp [inN]; omega
      refine AW.skip ?_
      refine .seq <|
        .seq <|
        .region <|
        .mI rfl rfl <|
        .qn rfl rfl rfl <|
        .mB rfl rfl ?_
      refine .gt rfl rfl rfl (fun _ => tl0) (fun hc => q_mv rfl (rfl : _ = V.int _ _)) ?_
      refine .gt rfl rfl rfl (fun hc => tl1 35 (.opt hc)) (fun hc => q_ne rfl rfl rfl) ?_
      refine .u rfl rfl rfl ((q_pickg rfl rfl (fun hp => by exact VLe.opt hp) (fun hp => by exact VLe.refl _))) ?_
      refine .mB rfl rfl ?_
      refine .gt rfl rfl rfl (fun _ => tl0) (fun hc => q_mv rfl (rfl : _ = V.int _ _)) ?_
      refine .gt rfl rfl rfl (fun hc => tl1 39 (.opt hc)) (fun hc => q_ne rfl rfl rfl) ?_
      refine .u rfl rfl rfl ((q_pickg rfl rfl (fun hp => by exact VLe.opt hp) (fun hp => by exact VLe.refl _))) ?_
      refine .mB rfl rfl ?_
      refine .gt rfl rfl rfl (fun _ => tl0) (fun hc => q_mv rfl (rfl : _ = V.int _ _)) ?_
      refine .gt rfl rfl rfl (fun hc => tl1 43 (.opt hc)) (fun hc => q_ne rfl rfl rfl) ?_
      refine .u rfl rfl rfl ((q_pickg rfl rfl (fun hp => by exact VLe.opt hp) (fun hp => by exact VLe.refl _))) ?_
      refine .mB rfl rfl ?_
      refine .gt rfl rfl rfl (fun _ => tl0) (fun hc => q_mv rfl (rfl : _ = V.int _ _)) ?_
      refine .gt rfl rfl rfl (fun hc => tl1 47 (.opt hc)) (fun hc => q_ne rfl rfl rfl) ?_
      refine .u rfl rfl rfl ((q_pickg rfl rfl (fun hp => by exact VLe.opt hp) (fun hp => by exact VLe.refl _))) ?_
      refine .mB rfl rfl ?_
      refine .gt rfl rfl rfl (fun _ => tl0) (fun hc => q_mv rfl (rfl : _ = V.int _ _)) ?_
      refine .gt rfl rfl rfl (fun hc => tl1 51 (.opt hc)) (fun hc => q_ne rfl rfl rfl) ?_
      refine .u rfl rfl rfl ((q_pickg rfl rfl (fun hp => by exact VLe.opt hp) (fun hp => by exact VLe.refl _))) ?_
      refine .mB rfl rfl ?_
      refine .gt rfl rfl rfl (fun _ => tl0) (fun hc => q_mv rfl (rfl : _ = V.int _ _)) ?_
      refine .gt rfl rfl rfl (fun hc => tl1 55 (.opt hc)) (fun hc => q_ne rfl rfl rfl) ?_
      refine .u rfl rfl rfl ((q_pickg rfl rfl (fun hp => by exact VLe.opt hp) (fun hp => by exact VLe.refl _))) ?_
      refine .nil ?_
      refine AW.cond rfl (fun c2 => ?_) (fun c2 => ?_)
      · rw [bases_bits] at c2
        have hbs : basesF base = false := by simpa using c2
        refine .seq <|
          .region <|
          .mP rfl rfl <|
          .nP rfl rfl <|
          .fb rfl f70_40 rfl rfl ?_
        refine AOps.s0 rfl rfl (a_store1 rfl sizeOf3 rfl (by exact bsb) (rfl : _ = V.int _ _) rfl rfl (by first | decide | exact Nat.le_of_ble_eq_true rfl) ?_)
        refine .nil ?_
        refine AW.ret ?_
        exact retQ.mk .none ⟨rfl, by rw [Em.rputF, if_neg (by simpa using hz), if_neg (by rw [hni]; decide), if_pos hbs, Em.fail, if_pos hz, Hp.setBox_setBox]; exact ⟨ve, vp, ⟨hr.ae, hr.ap, hr.fp, hr.fe, hr.fi⟩, rfl⟩⟩
      · rw [bases_bits] at c2
        have hbs : basesF base = true := by simpa using c2
        have hSz := hI.inv.sz hz
        obtain ⟨o, ho⟩ : ∃ o, o = g.now.objs.getD i.toNat noObj := ⟨_, rfl⟩
        have hfr : 0 ≤ o 3 ∧ o 3 ≤ 10 := by rw [ho]; exact hSz.zn _
        obtain ⟨to, hto⟩ : ∃ to, to = homeF o base := ⟨_, rfl⟩
        have htr : 0 ≤ to ∧ to ≤ 10 := by rw [hto]; exact home_in hbs
        have hll := hSz.lists to.toNat
        have hF : g.rputF i base = (((((((g.rdo ⟨1, i, o 3, idxF (g.now.lists (o 3).toNat) i, to, if o 3 = to then (g.now.lists to.toNat).length - 1 else (g.now.lists to.toNat).length⟩).rput2 i to).rput3 i to (o 1)).rput4 i to).rput5 i (o 3) to).rshow i (knowZoneF to)).rput7 i (o 3) to base (o 2)) := by
          rw [Em.rputF, if_neg (by simpa using hz), if_neg (by rw [hni]; decide), if_neg (by rw [hbs]; decide)]; simp only [Em.rput6, putEv, ← ho, ← hto]
        refine AW.skip ?_
        refine .seq <|
          .region <|
          .mP rfl rfl <|
          .nP rfl rfl <|
          .fb rfl f70_0 rfl rfl <|
          .fb rfl f29_0 rfl rfl <|
          .lb rfl isAgg22 rfl rfl <|
          .mI rfl rfl ?_
        refine .u rfl rfl rfl (q_ia_s rfl underlying22 sizeOf49 rfl rfl hi.1 hi.2 (show _ = cObj o by rw [ho]; exact cObjs_elem' hi.1 hi.2)) ?_
        refine .lw rfl isAgg49 sizeOf49 rfl rfl ?_
        refine AOps.s rfl rfl rfl (a_alloc rfl zeroValue49 rfl (fun id6 hid6 => ?_))
        refine .sw sizeOf49 rfl rfl rfl rfl ?_
        refine AOps.done 6 rfl hid6 ?_
        refine .nil <|
          .seq ?_
        refine AW.draw [] [] [(0, true), (1, true), (2, true), (3, true), (4, true), (5, true), (6, true)] mixed (by kernel_rfl) rfl (by kernel_rfl) ?_
        refine .q rfl rfl rfl rfl (q_ia_ai rfl underlying49 sizeOf3 rfl rfl (by decide) (by decide) rfl) ?_
        refine .q rfl rfl rfl rfl (q_load_i1 rfl isAgg3 rfl rfl) ?_
        refine .q rfl rfl rfl rfl (q_load_iW rfl isAgg49 sizeOf49 rfl (by rfl)) ?_
        refine .q rfl rfl rfl rfl (q_mv rfl (rfl : _ = V.int _ _)) ?_
        refine .q rfl rfl rfl rfl (QOp.call (x := V.int .i64 to) rfl (by exact call95) fun h' hl' => by rw [hto]; exact homeR_calls o base hbs h') ?_
        refine .q rfl rfl rfl rfl (q_as rfl (rfl : _ = V.int _ _)) ?_
        refine .q rfl rfl rfl rfl (q_as rfl (rfl : _ = V.int _ _)) ?_
        refine AOrd.nil ?_
        refine .seq <|
          .region <|
          .mP rfl rfl <|
          .mI rfl rfl <|
          .nP rfl rfl <|
          .fb rfl f70_0 rfl rfl <|
          .fb rfl f29_1 rfl rfl ?_
        refine .u rfl rfl rfl (q_ia_ab rfl underlying24 sizeOf23 rfl rfl (by omega) (by omega)) ?_
        refine .u rfl rfl rfl (q_load_b1 rfl isAgg23 rfl (by exact bsb) (st_list_ix htr.1 (by omega))) ?_
        refine .ln rfl underlying23 rfl <|
          .aI rfl rfl <|
          .nil ?_
        refine AW.cut (fun T h1 => T = put (put (put (put (put (put (put (T0) 0 (V.ptr id 0)) 1 (V.int .i64 i)) 2 (V.int .i64 base)) 6 (V.iptr (cObj o))) 7 (V.int .i64 (o 3))) 8 (V.int .i64 to)) 9 (V.int .i64 (if o 3 = to then (g.now.lists to.toNat).length - 1 else (g.now.lists to.toNat).length)) ∧ h1 = (addTok ve (addTok vp h0)).setBox id (gCells g ve vp)) ?_ ?_
        · skip
          refine .seq <|
            .region <|
            .mI rfl rfl <|
            .mI rfl rfl <|
            .qe rfl rfl rfl <|
            .nil ?_
          refine AW.cond rfl (fun c3 => ?_) (fun c3 => ?_)
          · skip
            refine .region <|
              .mI rfl rfl ?_
            refine .u rfl rfl rfl (q_sub' rfl rfl rfl (by omega)) ?_
            refine .aI rfl rfl <|
              .nil ?_
            exact Wk.mk (TLe.put (d := 9) (VLe.of_eq (congrArg (V.int .i64) (by first | rw [if_pos (by simpa using c3)] | rw [if_neg (by simpa using c3)]))) (TLe.put (d := 8) (VLe.refl _) (TLe.put (d := 7) (VLe.refl _) (TLe.put (d := 6) (VLe.refl _) (TLe.put (d := 2) (VLe.refl _) (TLe.put (d := 1) (VLe.refl _) (TLe.put (d := 0) (VLe.refl _) (TLe.zero _)))))))) (HLe.refl _) ⟨rfl, rfl⟩
          · skip
            refine AW.skip ?_
            exact Wk.mk (TLe.put (d := 9) (VLe.of_eq (congrArg (V.int .i64) (by first | rw [if_pos (by simpa using c3)] | rw [if_neg (by simpa using c3)]))) (TLe.put (d := 8) (VLe.refl _) (TLe.put (d := 7) (VLe.refl _) (TLe.put (d := 6) (VLe.refl _) (TLe.put (d := 2) (VLe.refl _) (TLe.put (d := 1) (VLe.refl _) (TLe.put (d := 0) (VLe.refl _) (TLe.zero _)))))))) (HLe.refl _) ⟨rfl, rfl⟩
        · rintro T h1 ⟨rfl, rfl⟩
          refine .seq <|
            .region <|
            .mP rfl rfl <|
            .mI rfl rfl <|
            .mI rfl rfl <|
            .mP rfl rfl <|
            .mI rfl rfl <|
            .nP rfl rfl <|
            .fb rfl f70_0 rfl rfl <|
            .fb rfl f29_1 rfl rfl ?_
          refine .u rfl rfl rfl (q_ia_ab rfl underlying24 sizeOf23 rfl rfl (by omega) (by omega)) ?_
          refine .u rfl rfl rfl (q_load_b1 rfl isAgg23 rfl (by exact bsb) (st_list_ix hfr.1 (by omega))) ?_
          refine .mI rfl rfl ?_
          refine .u rfl rfl rfl (QOp.call rfl call96 fun h' hl' => by exact refIndex_calls _ _ (hI.ls _) h') ?_
          refine .mI rfl rfl <|
            .mI rfl rfl ?_
          refine .u rfl rfl rfl (q_buildS (ds := cEv ⟨1, i, o 3, idxF (g.now.lists (o 3).toNat) i, to, if o 3 = to then (g.now.lists to.toNat).length - 1 else (g.now.lists to.toNat).length⟩) rfl zeroValue84 underlying84 (pl84 underlying84) rfl (by kernel_rfl)) ?_
          refine AOps.s rfl rfl rfl ((AStep.call rfl (by exact call67) (rdo_calls ⟨1, i, o 3, idxF (g.now.lists (o 3).toNat) i, to, if o 3 = to then (g.now.lists to.toNat).length - 1 else (g.now.lists to.toNat).length⟩ (by simp) ⟨ve, vp, hr, rfl⟩ hI)).mono ?_)
          rintro x3 h3 ⟨rfl, he3⟩
          refine .nil ?_
          have hI1 : GI (g.rdo ⟨1, i, o 3, idxF (g.now.lists (o 3).toNat) i, to, if o 3 = to then (g.now.lists to.toNat).length - 1 else (g.now.lists to.toNat).length⟩) := rdo_inv (by simp) hI
          have hS1 := rdo_sm (x := ⟨1, i, o 3, idxF (g.now.lists (o 3).toNat) i, to, if o 3 = to then (g.now.lists to.toNat).length - 1 else (g.now.lists to.toNat).length⟩) (hS hz)
          have hn1 : (g.rdo ⟨1, i, o 3, idxF (g.now.lists (o 3).toNat) i, to, if o 3 = to then (g.now.lists to.toNat).length - 1 else (g.now.lists to.toNat).length⟩).now.objs.length = g.now.objs.length := rdo_len (by simp)
          have hp1 := (rdo_pend (g := g) (x := ⟨1, i, o 3, idxF (g.now.lists (o 3).toNat) i, to, if o 3 = to then (g.now.lists to.toNat).length - 1 else (g.now.lists to.toNat).length⟩)).1
          rw [hF]
          generalize g.rdo ⟨1, i, o 3, idxF (g.now.lists (o 3).toNat) i, to, if o 3 = to then (g.now.lists to.toNat).length - 1 else (g.now.lists to.toNat).length⟩ = m1 at he3 hI1 hS1 hn1 hp1 ⊢
          refine AW.cut (fun T h1 => T = put (put (put (put (put (put (T0) 0 (V.ptr id 0)) 1 (V.int .i64 i)) 2 (V.int .i64 base)) 6 (V.iptr (cObj o))) 7 (V.int .i64 (o 3))) 8 (V.int .i64 to) ∧ GAt h0 id (m1.rput2 i to) h1) ?_ ?_
          · skip
            refine .seq <|
              .region <|
              .mI rfl rfl <|
              .qn rfl rfl rfl <|
              .nil ?_
            refine AW.cond rfl (fun c4 => ?_) (fun c4 => ?_)
            · skip
              refine .seq <|
                .region ?_
              refine .u rfl rfl rfl (q_buildSl (ds := cInts restL) rfl underlying23 sizeOf3 zeroValue3 rfl rfl rfl rfl (by kernel_rfl)) ?_
              refine .ln rfl underlying23 rfl <|
                .mI rfl rfl <|
                .nil <|
                .block ?_
              refine AW.loop (fun n T hh => ∃ (k : Nat) , k ≤ 9 ∧ n = 9 - k ∧ T = put (put (put (put (put (put (put (put (put (T0) 107 (V.int .i64 (k : Nat))) 106 (V.int .i64 9)) 105 (V.sl .full 1 9 (cInts restL))) 8 (V.int .i64 to)) 7 (V.int .i64 (o 3))) 6 (V.iptr (cObj o))) 2 (V.int .i64 base)) 1 (V.int .i64 i)) 0 (V.ptr id 0) ∧ GAt h0 id (m1.rrest i (restL.take k)) hh) (9) ?_ ?_
              · skip
                refine Wk.mk (TLe.put (d := 0) (VLe.refl _) (TLe.put (d := 1) (VLe.refl _) (TLe.put (d := 2) (VLe.refl _) (TLe.put (d := 6) (VLe.refl _) (TLe.put (d := 7) (VLe.refl _) (TLe.put (d := 8) (VLe.refl _) (TLe.put (d := 105) (VLe.refl _) (TLe.put (d := 106) (VLe.refl _) (TLe.put (d := 107) (by exact VLe.of_eq (congrArg (V.int .i64) (by first | rfl | omega))) (TLe.zero _)))))))))) (HLe.refl _) ⟨0, Nat.zero_le _, rfl, rfl, by exact he3⟩
              · skip
                rintro n T h' ⟨k, hk, rfl, rfl, hem⟩
                refine .seq <|
                  .region <|
                  .ql rfl rfl rfl <|
                  .nil <|
                  .seq ?_
                refine AW.cond rfl (fun c5 => ?_) (fun c5 => ?_)
                · have hltk : k < 9 := by have := of_decide_eq_true c5; omega
                  refine AW.skip ?_
                  refine .seq <|
                    .block <|
                    .seq <|
                    .region ?_
                  refine .u rfl rfl rfl (q_ia_s rfl underlying23 sizeOf3 rfl rfl (by omega) (by omega) (cInts_at (l := restL) hltk)) ?_
                  refine .li rfl isAgg3 rfl rfl <|
                    .aI rfl rfl <|
                    .nil <|
                    .region <|
                    .mP rfl rfl <|
                    .mI rfl rfl <|
                    .mI rfl rfl ?_
                  refine AOps.s rfl rfl rfl ((AStep.call rfl (by exact call97) (rset_calls i (restL.getD k 0) 0 hem (rrest_inv hI1))).mono ?_)
                  rintro x9 h9 ⟨rfl, he9⟩
                  refine .nil <|
                    .region <|
                    .ad rfl rfl rfl (by omega) <|
                    .mI rfl rfl <|
                    .nil ?_
                  refine Wk.mk (TLe.put (d := 0) (VLe.refl _) (TLe.put (d := 1) (VLe.refl _) (TLe.put (d := 2) (VLe.refl _) (TLe.put (d := 6) (VLe.refl _) (TLe.put (d := 7) (VLe.refl _) (TLe.put (d := 8) (VLe.refl _) (TLe.put (d := 105) (VLe.refl _) (TLe.put (d := 106) (VLe.refl _) (TLe.put (d := 107) (by exact VLe.of_eq (congrArg (V.int .i64) (by first | rfl | omega))) (TLe.zero _)))))))))) (HLe.refl _) ⟨_, ?_, k + 1, ?_, rfl, rfl, by rw [rrest_next (show k < restL.length from hltk)]; exact he9⟩
                  · omega
                  · omega
                · obtain rfl : k = 9 := by have := of_decide_eq_false c5; omega
                  refine AW.exit ?_
                  exact Wk.mk (TLe.put (d := 8) (VLe.refl _) (TLe.put (d := 7) (VLe.refl _) (TLe.put (d := 6) (VLe.refl _) (TLe.put (d := 2) (VLe.refl _) (TLe.put (d := 1) (VLe.refl _) (TLe.put (d := 0) (VLe.refl _) (TLe.zero _))))))) (HLe.refl _) ⟨rfl, by first | (rw [Em.rput2, if_pos (by simpa using c4)]; exact hem) | (rw [Em.rput2, if_neg (by simpa using c4)]; exact he3)⟩
            · skip
              refine AW.skip ?_
              exact Wk.mk (TLe.put (d := 8) (VLe.refl _) (TLe.put (d := 7) (VLe.refl _) (TLe.put (d := 6) (VLe.refl _) (TLe.put (d := 2) (VLe.refl _) (TLe.put (d := 1) (VLe.refl _) (TLe.put (d := 0) (VLe.refl _) (TLe.zero _))))))) (HLe.refl _) ⟨rfl, by first | (rw [Em.rput2, if_pos (by simpa using c4)]; exact hem) | (rw [Em.rput2, if_neg (by simpa using c4)]; exact he3)⟩
          · rintro T h2 ⟨rfl, he4⟩
            refine AW.cut (fun T h1 => T = put (put (put (put (put (put (T0) 0 (V.ptr id 0)) 1 (V.int .i64 i)) 2 (V.int .i64 base)) 6 (V.iptr (cObj o))) 7 (V.int .i64 (o 3))) 8 (V.int .i64 to) ∧ GAt h0 id ((m1.rput2 i to).rput3 i to (o 1)) h1) ?_ ?_
            · skip
              refine .seq <|
                .region <|
                .mI rfl rfl <|
                .ql rfl rfl rfl <|
                .nil ?_
              refine AW.cond rfl (fun c6 => ?_) (fun c6 => ?_)
              · skip
                refine .region <|
                  .mP rfl rfl <|
                  .mI rfl rfl ?_
                refine .u rfl rfl rfl (q_ia_ai rfl underlying49 sizeOf3 rfl rfl (by decide) (by decide) rfl) ?_
                refine .li rfl isAgg3 rfl rfl ?_
                refine AOps.s rfl rfl rfl ((AStep.call rfl (by exact call97) (rset_calls i 2 (o 1) he4 (rput2_inv hI1))).mono ?_)
                rintro x9 h9 ⟨rfl, he9⟩
                refine .nil ?_
                exact Wk.mk (TLe.put (d := 8) (VLe.refl _) (TLe.put (d := 7) (VLe.refl _) (TLe.put (d := 6) (VLe.refl _) (TLe.put (d := 2) (VLe.refl _) (TLe.put (d := 1) (VLe.refl _) (TLe.put (d := 0) (VLe.refl _) (TLe.zero _))))))) (HLe.refl _) ⟨rfl, by first | (rw [Em.rput3, if_pos (by simpa using c6)]; exact he9) | (rw [Em.rput3, if_neg (by simpa using c6)]; exact he4)⟩
              · skip
                refine AW.skip ?_
                exact Wk.mk (TLe.put (d := 8) (VLe.refl _) (TLe.put (d := 7) (VLe.refl _) (TLe.put (d := 6) (VLe.refl _) (TLe.put (d := 2) (VLe.refl _) (TLe.put (d := 1) (VLe.refl _) (TLe.put (d := 0) (VLe.refl _) (TLe.zero _))))))) (HLe.refl _) ⟨rfl, by first | (rw [Em.rput3, if_pos (by simpa using c6)]; exact he9) | (rw [Em.rput3, if_neg (by simpa using c6)]; exact he4)⟩
            · rintro T h2 ⟨rfl, he5⟩
              refine AW.cut (fun T h1 => T = put (put (put (put (put (put (T0) 0 (V.ptr id 0)) 1 (V.int .i64 i)) 2 (V.int .i64 base)) 6 (V.iptr (cObj o))) 7 (V.int .i64 (o 3))) 8 (V.int .i64 to) ∧ GAt h0 id (((m1.rput2 i to).rput3 i to (o 1)).rput4 i to) h1) ?_ ?_
              · skip
                refine .seq <|
                  .region <|
                  .mI rfl rfl <|
                  .qn rfl rfl rfl <|
                  .nil ?_
                refine AW.cond rfl (fun c7 => ?_) (fun c7 => ?_)
                · skip
                  refine .region <|
                    .mP rfl rfl <|
                    .mI rfl rfl ?_
                  refine AOps.s rfl rfl rfl ((AStep.call rfl (by exact call97) (rset_calls i 16 0 he5 (rput3_inv (rput2_inv hI1)))).mono ?_)
                  rintro x9 h9 ⟨rfl, he9⟩
                  refine .nil ?_
                  exact Wk.mk (TLe.put (d := 8) (VLe.refl _) (TLe.put (d := 7) (VLe.refl _) (TLe.put (d := 6) (VLe.refl _) (TLe.put (d := 2) (VLe.refl _) (TLe.put (d := 1) (VLe.refl _) (TLe.put (d := 0) (VLe.refl _) (TLe.zero _))))))) (HLe.refl _) ⟨rfl, by first | (rw [Em.rput4, if_pos (by simpa using c7)]; exact he9) | (rw [Em.rput4, if_neg (by simpa using c7)]; exact he5)⟩
                · skip
                  refine AW.skip ?_
                  exact Wk.mk (TLe.put (d := 8) (VLe.refl _) (TLe.put (d := 7) (VLe.refl _) (TLe.put (d := 6) (VLe.refl _) (TLe.put (d := 2) (VLe.refl _) (TLe.put (d := 1) (VLe.refl _) (TLe.put (d := 0) (VLe.refl _) (TLe.zero _))))))) (HLe.refl _) ⟨rfl, by first | (rw [Em.rput4, if_pos (by simpa using c7)]; exact he9) | (rw [Em.rput4, if_neg (by simpa using c7)]; exact he5)⟩
              · rintro T h2 ⟨rfl, he6⟩
                refine AW.cut (fun T h1 => T = put (put (put (put (put (put (T0) 0 (V.ptr id 0)) 1 (V.int .i64 i)) 2 (V.int .i64 base)) 6 (V.iptr (cObj o))) 7 (V.int .i64 (o 3))) 8 (V.int .i64 to) ∧ GAt h0 id ((((m1.rput2 i to).rput3 i to (o 1)).rput4 i to).rput5 i (o 3) to) h1) ?_ ?_
                · skip
                  refine .seq <|
                    .region <|
                    .mI rfl rfl <|
                    .qe rfl rfl rfl <|
                    .mB rfl rfl ?_
                  refine .gt rfl rfl rfl (fun _ => tl0) (fun hc => q_mv rfl (rfl : _ = V.int _ _)) ?_
                  refine .gt rfl rfl rfl (fun hc => tl1 131 (.opt hc)) (fun hc => q_ne rfl rfl rfl) ?_
                  refine .pt rfl rfl rfl rfl <|
                    .nil ?_
                  refine AW.cond rfl (fun c8 => ?_) (fun c8 => ?_)
                  · skip
                    refine .region <|
                      .mP rfl rfl <|
                      .mI rfl rfl ?_
                    refine AOps.s rfl rfl rfl ((AStep.call rfl (by exact call97) (rset_calls i 5 1 he6 (rput4_inv (rput3_inv (rput2_inv hI1))))).mono ?_)
                    rintro x9 h9 ⟨rfl, he9⟩
                    refine .nil ?_
                    exact Wk.mk (TLe.put (d := 8) (VLe.refl _) (TLe.put (d := 7) (VLe.refl _) (TLe.put (d := 6) (VLe.refl _) (TLe.put (d := 2) (VLe.refl _) (TLe.put (d := 1) (VLe.refl _) (TLe.put (d := 0) (VLe.refl _) (TLe.zero _))))))) (HLe.refl _) ⟨rfl, by first | (rw [Em.rput5, if_pos (by simpa using c8)]; exact he9) | (rw [Em.rput5, if_neg (by simpa using c8)]; exact he6)⟩
                  · skip
                    refine AW.skip ?_
                    exact Wk.mk (TLe.put (d := 8) (VLe.refl _) (TLe.put (d := 7) (VLe.refl _) (TLe.put (d := 6) (VLe.refl _) (TLe.put (d := 2) (VLe.refl _) (TLe.put (d := 1) (VLe.refl _) (TLe.put (d := 0) (VLe.refl _) (TLe.zero _))))))) (HLe.refl _) ⟨rfl, by first | (rw [Em.rput5, if_pos (by simpa using c8)]; exact he9) | (rw [Em.rput5, if_neg (by simpa using c8)]; exact he6)⟩
                · rintro T h2 ⟨rfl, he7⟩
                  refine .seq ?_
                  have hI5 := rput5_inv (i := i) (fr := o 3) (to := to) (rput4_inv (i := i) (to := to) (rput3_inv (i := i) (to := to) (own := o 1) (rput2_inv (i := i) (to := to) hI1)))
                  have hn6 : (m1.rput6 i to o).now.objs.length = g.now.objs.length := rput6_len.trans hn1
                  have hp6' := (rput6_pend (m := m1) (i := i) (to := to) (o := o)).1
                  unfold Em.rput6 at hn6 hp6'
                  refine .region <|
                    .mP rfl rfl <|
                    .mI rfl rfl <|
                    .mI rfl rfl ?_
                  refine .u rfl rfl rfl (QOp.call rfl call99 fun h' hl' => by exact zoneR_calls _ h') ?_
                  refine AOps.s rfl rfl rfl ((AStep.call rfl (by exact call98) (rshow_calls i (knowZoneF to) he7 hI5 (rput25_sm hS1))).mono ?_)
                  rintro x8 h8 ⟨rfl, he8⟩
                  refine .nil <|
                    .seq <|
                    .seq ?_
                  obtain ⟨ve8, vp8, hr8, rfl⟩ := he8
                  generalize ((((m1.rput2 i to).rput3 i to (o 1)).rput4 i to).rput5 i (o 3) to).rshow i (knowZoneF to) = m6 at hr8 hn6 hp6' ⊢
                  have hi6 : 0 ≤ i ∧ i < m6.now.objs.length := by rw [hn6]; exact hi
                  have hp6 : m6.pend.length ≤ 1000000 := by rw [hp6', hp1]; exact hp
                  refine .region <|
                    .mP rfl rfl <|
                    .nP rfl rfl <|
                    .fb rfl f70_40 rfl rfl <|
                    .lb rfl isAgg3 rfl rfl <|
                    .qn rfl rfl rfl <|
                    .nil ?_
                  refine AW.cond rfl (fun c9 => ?_) (fun c9 => ?_)
                  · skip
                    refine AW.ret ?_
                    exact retQ.mk .none ⟨rfl, by rw [Em.rput7, if_pos (by simpa using c9)]; exact ⟨ve8, vp8, hr8, rfl⟩⟩
                  · skip
                    refine AW.skip ?_
                    refine .seq <|
                      .region <|
                      .mI rfl rfl <|
                      .qe rfl rfl rfl <|
                      .mB rfl rfl ?_
                    refine .gt rfl rfl rfl (fun _ => tl0) (fun hc => q_mv rfl (rfl : _ = V.int _ _)) ?_
                    refine .gt rfl rfl rfl (fun hc => tl1 150 (.opt hc)) (fun hc => q_ne rfl rfl rfl) ?_
                    refine .pt rfl rfl rfl rfl <|
                      .nil ?_
                    refine AW.cond rfl (fun c10 => ?_) (fun c10 => ?_)
                    · skip
                      refine .region <|
                        .mP rfl rfl <|
                        .mI rfl rfl <|
                        .mP rfl rfl <|
                        .nP rfl rfl <|
                        .fb rfl f70_0 rfl rfl <|
                        .fb rfl f29_0 rfl rfl <|
                        .lb rfl isAgg22 rfl rfl <|
                        .mI rfl rfl ?_
                      refine .u rfl rfl rfl (q_ia_s rfl underlying22 sizeOf49 rfl rfl hi6.1 hi6.2 (cObjs_elem' hi6.1 hi6.2)) ?_
                      refine .u rfl rfl rfl (q_ia_ai rfl underlying49 sizeOf3 rfl rfl (by decide) (by decide) rfl) ?_
                      refine .li rfl isAgg3 rfl rfl ?_
                      refine AOps.s rfl rfl rfl ((AStep.call rfl (by exact call100) (rawait_calls i 2 _ ⟨ve8, vp8, hr8, rfl⟩ hi6 hp6)).mono ?_)
                      rintro x9 h9 ⟨rfl, he9⟩
                      refine .nil ?_
                      exact retQ.mk .none ⟨rfl, by rw [Em.rput7, if_neg (by simpa using c9), if_pos (by simpa using c10)]; exact he9⟩
                    · skip
                      refine .seq <|
                        .region <|
                        .mI rfl rfl <|
                        .qe rfl rfl rfl <|
                        .mB rfl rfl ?_
                      refine .gt rfl rfl rfl (fun _ => tl0) (fun hc => q_mv rfl (rfl : _ = V.int _ _)) ?_
                      refine .gt rfl rfl rfl (fun hc => tl1 168 (.opt hc)) (fun hc => q_eq rfl rfl rfl) ?_
                      refine .pt rfl rfl rfl rfl <|
                        .nil ?_
                      refine AW.cond rfl (fun c11 => ?_) (fun c11 => ?_)
                      · skip
                        refine .region <|
                          .mP rfl rfl <|
                          .mI rfl rfl ?_
                        refine .u rfl rfl rfl (q_ia_ai rfl underlying49 sizeOf3 rfl rfl (by decide) (by decide) rfl) ?_
                        refine .li rfl isAgg3 rfl rfl ?_
                        refine AOps.s rfl rfl rfl ((AStep.call rfl (by exact call100) (rawait_calls i 3 _ ⟨ve8, vp8, hr8, rfl⟩ hi6 hp6)).mono ?_)
                        rintro x9 h9 ⟨rfl, he9⟩
                        refine .nil ?_
                        exact retQ.mk .none ⟨rfl, by rw [Em.rput7, if_neg (by simpa using c9), if_neg (by simpa using c10), if_pos (by simpa using c11)]; exact he9⟩
                      · skip
                        refine AW.skip ?_
                        exact retQ.mk .none ⟨rfl, by rw [Em.rput7, if_neg (by simpa using c9), if_neg (by simpa using c10), if_neg (by simpa using c11)]; exact ⟨ve8, vp8, hr8, rfl⟩⟩

end Go.Proofs.YtnbmcbkokaoapaaGreatDoor
