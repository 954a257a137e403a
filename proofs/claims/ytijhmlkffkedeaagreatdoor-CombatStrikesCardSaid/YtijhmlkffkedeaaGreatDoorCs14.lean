/- Walks: hits that are done, and the end of a fight, by the document. -/
import Derived.Test.YtijhmlkffkedeaaGreatDoorCs13
namespace Go.Proofs.YtijhmlkffkedeaaGreatDoor
open Go Go.AV Go.Proofs.Tryz
set_option maxRecDepth 100000
set_option maxHeartbeats 1000000
theorem hits_from {s : St} {a : Int} (ha : isF s a = true) : ∀ x ∈ hitsF s a, isF s x.f = true := by
  have hbm : ∀ b ∈ blockersF s a, isF s b = true := fun b hb => by
    have := (List.mem_filter.1 hb).2
    unfold blocksF at this; simp only [Bool.and_eq_true] at this; exact this.1
  have hup : ∀ k, ∀ x ∈ (hitUp s a (blockersF s a) k).1, isF s x.f = true := fun k => by
    induction k with
    | zero => simp [hitUp]
    | succ k ih =>
      intro x hx
      rw [hitUp] at hx
      simp only [List.mem_append, List.mem_singleton] at hx
      rcases hx with hx | rfl
      · exact ih x hx
      · exact ha
  intro x hx
  unfold hitsF at hx
  split at hx
  · simp only [List.mem_singleton] at hx; subst hx; exact ha
  · simp only [List.mem_append, hitFront] at hx
    rcases hx with (hx | hx) | hx
    · exact hup _ x hx
    · split at hx
      · simp only [List.mem_singleton] at hx; subst hx; exact ha
      · simp at hx
    · simp only [hitBack, List.mem_map, List.mem_range] at hx
      obtain ⟨j, hj, rfl⟩ := hx
      exact hbm _ (getD_mem hj)
theorem strikes_from {s : St} : ∀ x ∈ strikesF s, isF s x.f = true := by
  intro x hx
  unfold strikesF at hx
  split at hx
  · simp at hx
  · have := (List.mem_filter.1 hx).1
    simp only [allHitsF, List.mem_flatMap] at this
    obtain ⟨a, ha, hxa⟩ := this
    have := (List.mem_filter.1 ha).2
    unfold attacksF at this; simp only [Bool.and_eq_true] at this
    exact hits_from this.1 x hxa
theorem pl_neg {s : St} {x : Hit} (h : HitOk s x) : isPl x.t = true ↔ x.t < 0 := by
  have := h.t
  unfold isPl at this ⊢
  by_cases h1 : x.t = -1 <;> by_cases h2 : x.t = -2 <;> simp_all <;> omega
theorem tgt_bd {s : St} {x : Hit} (h : HitOk s x) (hb : s.objs.length ≤ 1000000) : -9223372036854775807 ≤ x.t ∧ x.t ≤ 9223372036854775807 := by
  have := h.t
  simp [isPl] at this; omega
theorem strikeAll_stop {m : Em} (h : m.err ≠ 0) : m.strikeAll = m := by
  rw [Em.strikeAll, show m.state = noSt by unfold Em.state; rw [if_neg h], strikes_no]; rfl
theorem endF_stop {m : Em} (h : m.err ≠ 0) : m.endF = m := by
  rw [Em.endF, show m.state = noSt by unfold Em.state; rw [if_neg h]]; rfl
theorem state_eq {m : Em} (h : m.err = 0) : m.state = m.now := by unfold Em.state; rw [if_pos h]

theorem rstrike_calls {h0 : Hp} {id : Nat} {m : Em} {h : Hp} (he : GA h0 id m h) : ACalls prog G 18 [.ptr id 0] h fun r h' => r = .tup [] ∧ GA h0 id m.strikeAll h' := by
  obtain ⟨g, hm, hI, hS, hp, ve, vp, hr, rfl⟩ := he
  refine ACalls.enter func18 rfl ntmps18 results18 rfl ?_
  refine .seq <|
    .seq <|
    .region <|
    .mP rfl rfl <|
    .nP rfl rfl <|
    .fb rfl f78_40 rfl rfl <|
    .lb rfl isAgg3 rfl rfl <|
    .qn rfl rfl rfl <|
    .nil ?_
  refine AW.cond rfl (fun c0 => ?_) (fun c0 => ?_)
  · skip
    refine AW.ret ?_
    exact retQ.mk .none ⟨rfl, by rw [strikeAll_stop (fun e => by rw [hm.err] at e; simp [e] at c0)]; exact ⟨_, hm, hI, hS, hp, ve, vp, hr, rfl⟩⟩
  · have hz : g.err = 0 := by simpa using c0
    obtain rfl := hm.same (hm.err.trans hz)
    have hst := state_eq hz
    have hsl := strikes_len (s := m.now)
    refine AW.skip ?_
    refine .seq <|
      .region <|
      .mP rfl rfl <|
      .nP rfl rfl <|
      .fb rfl f78_0 rfl rfl ?_
    refine .u rfl rfl rfl (q_load_bN (ds := cState m.now) rfl isAgg29 sizeOf29 (by decide) rfl (by exact bsb) rfl rfl) ?_
    refine AOps.s rfl rfl rfl (a_alloc rfl zeroValue29 rfl (fun id2 hid2 => ?_))
    refine .sw sizeOf29 rfl rfl rfl rfl ?_
    refine AOps.done 2 rfl hid2 ?_
    refine .nil <|
      .seq <|
      .region <|
      .lw rfl isAgg29 sizeOf29 rfl rfl ?_
    refine .u rfl rfl rfl (QOp.call rfl call9 fun h' hl' => by exact rhits_calls m.now hI.ob hI.ls h') ?_
    refine .ln rfl underlying34 rfl <|
      .mI rfl rfl <|
      .nil <|
      .block ?_
    refine AW.loop (fun n T hh => ∃ (k : Nat) , k ≤ (strikesF m.now).length ∧ n = (strikesF m.now).length - k ∧ T = put (put (put (put (put (T0) 18 (V.int .i64 (k : Nat))) 17 (V.int .i64 (strikesF m.now).length)) 16 (eHits (strikesF m.now))) 2 (V.iptr (cState m.now))) 0 (V.ptr id 0) ∧ GA h0 id (m.strikeL m.now ((strikesF m.now).take k)) hh) ((strikesF m.now).length) ?_ ?_
    · skip
      refine Wk.mk (TLe.put (d := 0) (VLe.refl _) (TLe.put (d := 2) (VLe.refl _) (TLe.put (d := 16) (VLe.refl _) (TLe.put (d := 17) (VLe.refl _) (TLe.put (d := 18) (by exact VLe.of_eq (congrArg (V.int .i64) (by first | rfl | omega))) (TLe.zero _)))))) (HLe.refl _) ⟨0, Nat.zero_le _, rfl, rfl, by rw [List.take_zero]; exact ⟨_, hm, hI, hS, hp, ve, vp, hr, rfl⟩⟩
    · skip
      rintro n T h' ⟨k, hk, rfl, rfl, hem⟩
      refine .seq <|
        .region <|
        .ql rfl rfl rfl <|
        .nil <|
        .seq ?_
      refine AW.cond rfl (fun c1 => ?_) (fun c1 => ?_)
      · have hltk : k < (strikesF m.now).length := by have := of_decide_eq_true c1; omega
        have hmem := hit_mem hltk
        have hx := strikes_ok hI.ob _ hmem
        have hF := strikes_from _ hmem
        have hFi := is_in hF
        have hneg := pl_neg hx
        obtain ⟨hn1, hn2⟩ := hx.n
        have htt := hx.t
        have htb : -9223372036854775807 ≤ ((strikesF m.now).getD k noHit).t ∧ ((strikesF m.now).getD k noHit).t ≤ 9223372036854775807 := tgt_bd hx hI.ob
        have hsame := strikeL_same (m := m) (s := m.now) (l := (strikesF m.now).take k)
        refine AW.skip ?_
        refine .seq <|
          .block <|
          .seq <|
          .region ?_
        refine .u rfl rfl rfl (q_ia_s rfl underlying34 sizeOf41 rfl rfl (by omega) (by omega) (cHits_at hltk)) ?_
        refine .lw rfl isAgg41 sizeOf41 rfl rfl ?_
        refine AOps.s rfl rfl rfl (a_alloc rfl zeroValue41 rfl (fun id4 hid4 => ?_))
        refine .sw sizeOf41 rfl rfl rfl rfl ?_
        refine AOps.done 4 rfl hid4 ?_
        refine .nil ?_
        refine AW.cut (fun T h1 => T = put (put (put (put (put (put (T0) 0 (V.ptr id 0)) 2 (V.iptr (cState m.now))) 16 (eHits (strikesF m.now))) 17 (V.int .i64 (strikesF m.now).length)) 18 (V.int .i64 (k : Nat))) 4 (V.iptr (cHit ((strikesF m.now).getD k noHit))) ∧ GA h0 id ((m.strikeL m.now ((strikesF m.now).take k)).strike1 m.now ((strikesF m.now).getD k noHit)) h1) ?_ ?_
        · skip
          refine .seq <|
            .region <|
            .fi rfl f41_1 rfl <|
            .li rfl isAgg3 rfl rfl <|
            .ql rfl rfl rfl <|
            .nil ?_
          refine AW.cond rfl (fun c2 => ?_) (fun c2 => ?_)
          · have hpl : isPl ((strikesF m.now).getD k noHit).t = true := hneg.2 (of_decide_eq_true c2)
            refine .region <|
              .mP rfl rfl <|
              .fi rfl f41_1 rfl <|
              .li rfl isAgg3 rfl rfl ?_
            refine .u rfl rfl rfl (q_sub' rfl rfl rfl (by omega)) ?_
            refine .fi rfl f41_2 rfl <|
              .li rfl isAgg3 rfl rfl ?_
            refine .u rfl rfl rfl (q_neg' rfl rfl (by omega)) ?_
            refine AOps.s rfl rfl rfl ((AStep.call rfl (by exact call49) (ga_life (-1 - ((strikesF m.now).getD k noHit).t) (-((strikesF m.now).getD k noHit).n) hem)).mono ?_)
            rintro x3 h3 ⟨rfl, he3⟩
            refine .nil ?_
            first | exact Wk.mk (TLe.put (d := 4) (VLe.refl _) (TLe.put (d := 18) (VLe.refl _) (TLe.put (d := 17) (VLe.refl _) (TLe.put (d := 16) (VLe.refl _) (TLe.put (d := 2) (VLe.refl _) (TLe.put (d := 0) (VLe.refl _) (TLe.zero _))))))) (HLe.refl _) ⟨rfl, by rw [Em.strike1, if_pos hpl]; exact he3⟩ | exact Wk.mk (TLe.put (d := 4) (VLe.refl _) (TLe.put (d := 18) (VLe.refl _) (TLe.put (d := 17) (VLe.refl _) (TLe.put (d := 16) (VLe.refl _) (TLe.put (d := 2) (VLe.refl _) (TLe.put (d := 0) (VLe.refl _) (TLe.zero _))))))) (HLe.refl _) ⟨rfl, by rw [Em.strike1, if_neg (by rw [hpl]; decide), if_pos ⟨by omega, hz'⟩, if_pos c4]; exact he3⟩ | exact Wk.mk (TLe.put (d := 4) (VLe.refl _) (TLe.put (d := 18) (VLe.refl _) (TLe.put (d := 17) (VLe.refl _) (TLe.put (d := 16) (VLe.refl _) (TLe.put (d := 2) (VLe.refl _) (TLe.put (d := 0) (VLe.refl _) (TLe.zero _))))))) (HLe.refl _) ⟨rfl, by rw [Em.strike1, if_neg (by rw [hpl]; decide), if_pos ⟨by omega, hz'⟩, if_neg (by rw [c4]; decide)]; exact he3⟩ | exact Wk.mk (TLe.put (d := 4) (VLe.refl _) (TLe.put (d := 18) (VLe.refl _) (TLe.put (d := 17) (VLe.refl _) (TLe.put (d := 16) (VLe.refl _) (TLe.put (d := 2) (VLe.refl _) (TLe.put (d := 0) (VLe.refl _) (TLe.zero _))))))) (HLe.refl _) ⟨rfl, by rw [Em.strike1, if_neg (by rw [hpl]; decide), if_neg (fun e => hz' e.2)]; exact ⟨_, hm', hI', hS', hp', ve', vp', hr', rfl⟩⟩
          · have hpl : isPl ((strikesF m.now).getD k noHit).t = false := by
              have := of_decide_eq_false c2
              cases e : isPl ((strikesF m.now).getD k noHit).t
              · rfl
              · exact absurd (hneg.1 e) this
            have hpos : 1 ≤ ((strikesF m.now).getD k noHit).t ∧ ((strikesF m.now).getD k noHit).t ≤ m.now.objs.length := by rcases htt with e | e; (rw [hpl] at e; cases e); exact e
            obtain ⟨g', hm', hI', hS', hp', ve', vp', hr', rfl⟩ := hem
            refine .seq <|
              .region <|
              .mP rfl rfl <|
              .nP rfl rfl <|
              .fb rfl f78_40 rfl rfl <|
              .lb rfl isAgg3 rfl rfl <|
              .qe rfl rfl rfl <|
              .nil ?_
            refine AW.cond rfl (fun c3 => ?_) (fun c3 => ?_)
            · have hz' : g'.err = 0 := by simpa using c3
              obtain rfl := hm'.same (hm'.err.trans hz')
              have hlen := hsame.len
              have h6 := (hS' hz').o (((strikesF m.now).getD k noHit).t - 1).toNat 6 (by decide)
              unfold sml at h6
              refine .seq <|
                .region <|
                .fi rfl f41_2 rfl <|
                .li rfl isAgg3 rfl rfl <|
                .aI rfl rfl <|
                .nil <|
                .seq <|
                .seq <|
                .region <|
                .lw rfl isAgg29 sizeOf29 rfl rfl <|
                .fi rfl f41_0 rfl <|
                .li rfl isAgg3 rfl rfl ?_
              refine .u rfl rfl rfl (QOp.call rfl call38 fun h' hl' => by exact word_calls m.now ((strikesF m.now).getD k noHit).f 16 (k := 4) rfl (by decide) hF hI.ob hI.ls h') ?_
              refine .nil ?_
              refine AW.cond rfl (fun c4 => ?_) (fun c4 => ?_)
              · skip
                refine .region <|
                  .mI rfl rfl <|
                  .ad rfl rfl rfl (by omega) <|
                  .aI rfl rfl <|
                  .nil ?_
                refine AW.draw [18] [1, 2, 4, 5, 6, 7, 9, 10, 11, 12, 13, 14, 15, 16] [(0, true), (1, true), (2, true), (3, true), (4, true), (5, true), (6, true), (7, true), (9, true), (10, true), (11, true), (15, true), (8, false), (12, true), (13, true), (14, true), (16, true), (17, true), (18, false)] mixed (by kernel_rfl) rfl (by kernel_rfl) ?_
                refine .q rfl rfl rfl rfl (q_mv rfl (rfl : _ = V.ptr _ _)) ?_
                refine .p rfl rfl rfl (fun _ => q_fa_i rfl underlying41 rfl (by exact sizeOf3) (by decide) rfl (rfl : _ = List.drop 1 _)) ?_
                refine .p rfl rfl rfl (fun _ => q_load_i1 rfl isAgg3 rfl rfl) ?_
                refine .q rfl rfl rfl rfl (q_sub' rfl rfl rfl (by omega)) ?_
                refine .p rfl rfl rfl (fun _ => q_mv rfl (rfl : _ = V.ptr _ _)) ?_
                refine .p rfl rfl rfl (fun _ => q_nc rfl (rfl : _ = V.ptr _ _) rfl) ?_
                refine .p rfl rfl rfl (fun _ => q_fa_b rfl underlying78 rfl (by exact sizeOf29) (by decide) rfl (rfl : _ = 0)) ?_
                refine .p rfl rfl rfl (fun _ => q_fa_b rfl underlying29 rfl (by exact sizeOf22) (by decide) rfl (rfl : _ = 0)) ?_
                refine .p rfl rfl rfl (fun _ => q_fa_i rfl underlying41 rfl (by exact sizeOf3) (by decide) rfl (rfl : _ = List.drop 1 _)) ?_
                refine .p rfl rfl rfl (fun _ => q_load_i1 rfl isAgg3 rfl rfl) ?_
                refine .p rfl rfl rfl (fun _ => q_sub' rfl rfl rfl (by omega)) ?_
                refine .p rfl rfl rfl (fun _ => q_mv rfl (rfl : _ = V.int _ _)) ?_
                refine AOrd.qf rfl rfl rfl (q_load_b1 rfl isAgg22 rfl (by exact bsb) rfl) ?_
                refine .p rfl rfl rfl (fun _ => q_ia_s rfl underlying22 sizeOf58 rfl rfl (by omega) (by omega) (cObjs_elem' (by omega) (by omega))) ?_
                refine .p rfl rfl rfl (fun _ => q_ia_ai rfl underlying58 sizeOf3 rfl rfl (by decide) (by decide) rfl) ?_
                refine .p rfl rfl rfl (fun _ => q_load_i1 rfl isAgg3 rfl rfl) ?_
                refine .p rfl rfl rfl (fun _ => q_add' rfl rfl rfl (by omega)) ?_
                refine .q rfl rfl rfl rfl (q_min rfl rfl rfl) ?_
                refine AOrd.s rfl rfl rfl rfl ((AStep.call rfl (by exact call50) (ga_set (((strikesF m.now).getD k noHit).t - 1) 6 _ ⟨_, hm', hI', hS', hp', ve', vp', hr', rfl⟩)).mono ?_)
                rintro x3 h3 ⟨rfl, he3⟩
                refine AOrd.nil ?_
                first | exact Wk.mk (TLe.put (d := 4) (VLe.refl _) (TLe.put (d := 18) (VLe.refl _) (TLe.put (d := 17) (VLe.refl _) (TLe.put (d := 16) (VLe.refl _) (TLe.put (d := 2) (VLe.refl _) (TLe.put (d := 0) (VLe.refl _) (TLe.zero _))))))) (HLe.refl _) ⟨rfl, by rw [Em.strike1, if_pos hpl]; exact he3⟩ | exact Wk.mk (TLe.put (d := 4) (VLe.refl _) (TLe.put (d := 18) (VLe.refl _) (TLe.put (d := 17) (VLe.refl _) (TLe.put (d := 16) (VLe.refl _) (TLe.put (d := 2) (VLe.refl _) (TLe.put (d := 0) (VLe.refl _) (TLe.zero _))))))) (HLe.refl _) ⟨rfl, by rw [Em.strike1, if_neg (by rw [hpl]; decide), if_pos ⟨by omega, hz'⟩, if_pos c4]; exact he3⟩ | exact Wk.mk (TLe.put (d := 4) (VLe.refl _) (TLe.put (d := 18) (VLe.refl _) (TLe.put (d := 17) (VLe.refl _) (TLe.put (d := 16) (VLe.refl _) (TLe.put (d := 2) (VLe.refl _) (TLe.put (d := 0) (VLe.refl _) (TLe.zero _))))))) (HLe.refl _) ⟨rfl, by rw [Em.strike1, if_neg (by rw [hpl]; decide), if_pos ⟨by omega, hz'⟩, if_neg (by rw [c4]; decide)]; exact he3⟩ | exact Wk.mk (TLe.put (d := 4) (VLe.refl _) (TLe.put (d := 18) (VLe.refl _) (TLe.put (d := 17) (VLe.refl _) (TLe.put (d := 16) (VLe.refl _) (TLe.put (d := 2) (VLe.refl _) (TLe.put (d := 0) (VLe.refl _) (TLe.zero _))))))) (HLe.refl _) ⟨rfl, by rw [Em.strike1, if_neg (by rw [hpl]; decide), if_neg (fun e => hz' e.2)]; exact ⟨_, hm', hI', hS', hp', ve', vp', hr', rfl⟩⟩
              · skip
                refine AW.skip ?_
                refine AW.draw [18] [1, 2, 4, 5, 6, 7, 9, 10, 11, 12, 13, 14, 15, 16] [(0, true), (1, true), (2, true), (3, true), (4, true), (5, true), (6, true), (7, true), (9, true), (10, true), (11, true), (15, true), (8, false), (12, true), (13, true), (14, true), (16, true), (17, true), (18, false)] mixed (by kernel_rfl) rfl (by kernel_rfl) ?_
                refine .q rfl rfl rfl rfl (q_mv rfl (rfl : _ = V.ptr _ _)) ?_
                refine .p rfl rfl rfl (fun _ => q_fa_i rfl underlying41 rfl (by exact sizeOf3) (by decide) rfl (rfl : _ = List.drop 1 _)) ?_
                refine .p rfl rfl rfl (fun _ => q_load_i1 rfl isAgg3 rfl rfl) ?_
                refine .q rfl rfl rfl rfl (q_sub' rfl rfl rfl (by omega)) ?_
                refine .p rfl rfl rfl (fun _ => q_mv rfl (rfl : _ = V.ptr _ _)) ?_
                refine .p rfl rfl rfl (fun _ => q_nc rfl (rfl : _ = V.ptr _ _) rfl) ?_
                refine .p rfl rfl rfl (fun _ => q_fa_b rfl underlying78 rfl (by exact sizeOf29) (by decide) rfl (rfl : _ = 0)) ?_
                refine .p rfl rfl rfl (fun _ => q_fa_b rfl underlying29 rfl (by exact sizeOf22) (by decide) rfl (rfl : _ = 0)) ?_
                refine .p rfl rfl rfl (fun _ => q_fa_i rfl underlying41 rfl (by exact sizeOf3) (by decide) rfl (rfl : _ = List.drop 1 _)) ?_
                refine .p rfl rfl rfl (fun _ => q_load_i1 rfl isAgg3 rfl rfl) ?_
                refine .p rfl rfl rfl (fun _ => q_sub' rfl rfl rfl (by omega)) ?_
                refine .p rfl rfl rfl (fun _ => q_mv rfl (rfl : _ = V.int _ _)) ?_
                refine AOrd.qf rfl rfl rfl (q_load_b1 rfl isAgg22 rfl (by exact bsb) rfl) ?_
                refine .p rfl rfl rfl (fun _ => q_ia_s rfl underlying22 sizeOf58 rfl rfl (by omega) (by omega) (cObjs_elem' (by omega) (by omega))) ?_
                refine .p rfl rfl rfl (fun _ => q_ia_ai rfl underlying58 sizeOf3 rfl rfl (by decide) (by decide) rfl) ?_
                refine .p rfl rfl rfl (fun _ => q_load_i1 rfl isAgg3 rfl rfl) ?_
                refine .p rfl rfl rfl (fun _ => q_add' rfl rfl rfl (by omega)) ?_
                refine .q rfl rfl rfl rfl (q_min rfl rfl rfl) ?_
                refine AOrd.s rfl rfl rfl rfl ((AStep.call rfl (by exact call50) (ga_set (((strikesF m.now).getD k noHit).t - 1) 6 _ ⟨_, hm', hI', hS', hp', ve', vp', hr', rfl⟩)).mono ?_)
                rintro x3 h3 ⟨rfl, he3⟩
                refine AOrd.nil ?_
                first | exact Wk.mk (TLe.put (d := 4) (VLe.refl _) (TLe.put (d := 18) (VLe.refl _) (TLe.put (d := 17) (VLe.refl _) (TLe.put (d := 16) (VLe.refl _) (TLe.put (d := 2) (VLe.refl _) (TLe.put (d := 0) (VLe.refl _) (TLe.zero _))))))) (HLe.refl _) ⟨rfl, by rw [Em.strike1, if_pos hpl]; exact he3⟩ | exact Wk.mk (TLe.put (d := 4) (VLe.refl _) (TLe.put (d := 18) (VLe.refl _) (TLe.put (d := 17) (VLe.refl _) (TLe.put (d := 16) (VLe.refl _) (TLe.put (d := 2) (VLe.refl _) (TLe.put (d := 0) (VLe.refl _) (TLe.zero _))))))) (HLe.refl _) ⟨rfl, by rw [Em.strike1, if_neg (by rw [hpl]; decide), if_pos ⟨by omega, hz'⟩, if_pos c4]; exact he3⟩ | exact Wk.mk (TLe.put (d := 4) (VLe.refl _) (TLe.put (d := 18) (VLe.refl _) (TLe.put (d := 17) (VLe.refl _) (TLe.put (d := 16) (VLe.refl _) (TLe.put (d := 2) (VLe.refl _) (TLe.put (d := 0) (VLe.refl _) (TLe.zero _))))))) (HLe.refl _) ⟨rfl, by rw [Em.strike1, if_neg (by rw [hpl]; decide), if_pos ⟨by omega, hz'⟩, if_neg (by rw [c4]; decide)]; exact he3⟩ | exact Wk.mk (TLe.put (d := 4) (VLe.refl _) (TLe.put (d := 18) (VLe.refl _) (TLe.put (d := 17) (VLe.refl _) (TLe.put (d := 16) (VLe.refl _) (TLe.put (d := 2) (VLe.refl _) (TLe.put (d := 0) (VLe.refl _) (TLe.zero _))))))) (HLe.refl _) ⟨rfl, by rw [Em.strike1, if_neg (by rw [hpl]; decide), if_neg (fun e => hz' e.2)]; exact ⟨_, hm', hI', hS', hp', ve', vp', hr', rfl⟩⟩
            · have hz' : (m.strikeL m.now ((strikesF m.now).take k)).err ≠ 0 := fun e => by rw [hm'.err] at e; simp [e] at c3
              refine AW.skip ?_
              first | exact Wk.mk (TLe.put (d := 4) (VLe.refl _) (TLe.put (d := 18) (VLe.refl _) (TLe.put (d := 17) (VLe.refl _) (TLe.put (d := 16) (VLe.refl _) (TLe.put (d := 2) (VLe.refl _) (TLe.put (d := 0) (VLe.refl _) (TLe.zero _))))))) (HLe.refl _) ⟨rfl, by rw [Em.strike1, if_pos hpl]; exact he3⟩ | exact Wk.mk (TLe.put (d := 4) (VLe.refl _) (TLe.put (d := 18) (VLe.refl _) (TLe.put (d := 17) (VLe.refl _) (TLe.put (d := 16) (VLe.refl _) (TLe.put (d := 2) (VLe.refl _) (TLe.put (d := 0) (VLe.refl _) (TLe.zero _))))))) (HLe.refl _) ⟨rfl, by rw [Em.strike1, if_neg (by rw [hpl]; decide), if_pos ⟨by omega, hz'⟩, if_pos c4]; exact he3⟩ | exact Wk.mk (TLe.put (d := 4) (VLe.refl _) (TLe.put (d := 18) (VLe.refl _) (TLe.put (d := 17) (VLe.refl _) (TLe.put (d := 16) (VLe.refl _) (TLe.put (d := 2) (VLe.refl _) (TLe.put (d := 0) (VLe.refl _) (TLe.zero _))))))) (HLe.refl _) ⟨rfl, by rw [Em.strike1, if_neg (by rw [hpl]; decide), if_pos ⟨by omega, hz'⟩, if_neg (by rw [c4]; decide)]; exact he3⟩ | exact Wk.mk (TLe.put (d := 4) (VLe.refl _) (TLe.put (d := 18) (VLe.refl _) (TLe.put (d := 17) (VLe.refl _) (TLe.put (d := 16) (VLe.refl _) (TLe.put (d := 2) (VLe.refl _) (TLe.put (d := 0) (VLe.refl _) (TLe.zero _))))))) (HLe.refl _) ⟨rfl, by rw [Em.strike1, if_neg (by rw [hpl]; decide), if_neg (fun e => hz' e.2)]; exact ⟨_, hm', hI', hS', hp', ve', vp', hr', rfl⟩⟩
        · rintro T h1 ⟨rfl, he5⟩
          refine .seq <|
            .region <|
            .lw rfl isAgg29 sizeOf29 rfl rfl <|
            .fi rfl f41_0 rfl <|
            .li rfl isAgg3 rfl rfl ?_
          refine .u rfl rfl rfl (QOp.call rfl call38 fun h' hl' => by exact word_calls m.now ((strikesF m.now).getD k noHit).f 32 (k := 5) rfl (by decide) hF hI.ob hI.ls h') ?_
          refine .nil ?_
          refine AW.cond rfl (fun c5 => ?_) (fun c5 => ?_)
          · skip
            refine AW.draw [10] [1, 2, 3, 4, 5, 6, 8] [(0, true), (1, true), (2, true), (3, true), (4, true), (5, true), (6, true), (7, true), (8, true), (9, true), (10, false)] mixed (by kernel_rfl) rfl (by kernel_rfl) ?_
            refine .q rfl rfl rfl rfl (q_mv rfl (rfl : _ = V.ptr _ _)) ?_
            refine .p rfl rfl rfl (fun _ => q_fa_i rfl underlying29 rfl (by exact sizeOf22) (by decide) rfl (rfl : _ = List.drop 0 _)) ?_
            refine .p rfl rfl rfl (fun _ => q_load_i1 rfl isAgg22 rfl rfl) ?_
            refine .p rfl rfl rfl (fun _ => q_fa_i rfl underlying41 rfl (by exact sizeOf3) (by decide) rfl (rfl : _ = List.drop 0 _)) ?_
            refine .p rfl rfl rfl (fun _ => q_load_i1 rfl isAgg3 rfl rfl) ?_
            refine .p rfl rfl rfl (fun _ => q_ia_s rfl underlying22 sizeOf58 rfl rfl hFi.1 hFi.2 (cObjs_elem' hFi.1 hFi.2)) ?_
            refine .p rfl rfl rfl (fun _ => q_ia_ai rfl underlying58 sizeOf3 rfl rfl (by decide) (by decide) rfl) ?_
            refine .q rfl rfl rfl rfl (q_load_i1 rfl isAgg3 rfl rfl) ?_
            refine .p rfl rfl rfl (fun _ => q_fa_i rfl underlying41 rfl (by exact sizeOf3) (by decide) rfl (rfl : _ = List.drop 2 _)) ?_
            refine .q rfl rfl rfl rfl (q_load_i1 rfl isAgg3 rfl rfl) ?_
            refine AOrd.s rfl rfl rfl rfl ((AStep.call rfl (by exact call49) (ga_life (m.now.objs.getD ((strikesF m.now).getD k noHit).f.toNat noObj 2) ((strikesF m.now).getD k noHit).n he5)).mono ?_)
            rintro x9 h9 ⟨rfl, he9⟩
            refine AOrd.nil ?_
            refine .region <|
              .ad rfl rfl rfl (by omega) <|
              .mI rfl rfl <|
              .nil ?_
            refine Wk.mk (TLe.put (d := 0) (VLe.refl _) (TLe.put (d := 2) (VLe.refl _) (TLe.put (d := 16) (VLe.refl _) (TLe.put (d := 17) (VLe.refl _) (TLe.put (d := 18) (by exact VLe.of_eq (congrArg (V.int .i64) (by first | rfl | omega))) (TLe.zero _)))))) (HLe.refl _) ⟨_, ?_, k + 1, ?_, rfl, rfl, by rw [strikeL_next hltk, Em.strikeF]; first | (rw [if_pos c5]; exact he9) | (rw [if_neg (by rw [c5]; decide)]; exact he5)⟩
            · omega
            · omega
          · skip
            refine AW.skip ?_
            refine .region <|
              .ad rfl rfl rfl (by omega) <|
              .mI rfl rfl <|
              .nil ?_
            refine Wk.mk (TLe.put (d := 0) (VLe.refl _) (TLe.put (d := 2) (VLe.refl _) (TLe.put (d := 16) (VLe.refl _) (TLe.put (d := 17) (VLe.refl _) (TLe.put (d := 18) (by exact VLe.of_eq (congrArg (V.int .i64) (by first | rfl | omega))) (TLe.zero _)))))) (HLe.refl _) ⟨_, ?_, k + 1, ?_, rfl, rfl, by rw [strikeL_next hltk, Em.strikeF]; first | (rw [if_pos c5]; exact he9) | (rw [if_neg (by rw [c5]; decide)]; exact he5)⟩
            · omega
            · omega
      · obtain rfl : k = (strikesF m.now).length := by have := of_decide_eq_false c1; omega
        refine AW.exit ?_
        rw [List.take_length] at hem
        exact retQ.mk .none ⟨rfl, by rw [Em.strikeAll, hst]; exact hem⟩

theorem rend_calls {h0 : Hp} {id : Nat} {m : Em} {h : Hp} (he : GA h0 id m h) : ACalls prog G 21 [.ptr id 0] h fun r h' => r = .tup [] ∧ GA h0 id m.endF h' := by
  obtain ⟨g, hm, hI, hS, hp, ve, vp, hr, rfl⟩ := he
  have hl8 := hI.ls 8
  refine ACalls.enter func21 rfl ntmps21 results21 rfl ?_
  refine .seq <|
    .seq <|
    .region <|
    .mP rfl rfl <|
    .nP rfl rfl <|
    .fb rfl f78_40 rfl rfl <|
    .lb rfl isAgg3 rfl rfl <|
    .qn rfl rfl rfl <|
    .nil ?_
  refine AW.cond rfl (fun c0 => ?_) (fun c0 => ?_)
  · skip
    refine AW.ret ?_
    exact retQ.mk .none ⟨rfl, by rw [endF_stop (fun e => by rw [hm.err] at e; simp [e] at c0)]; exact ⟨_, hm, hI, hS, hp, ve, vp, hr, rfl⟩⟩
  · have hz : g.err = 0 := by simpa using c0
    obtain rfl := hm.same (hm.err.trans hz)
    have hst := state_eq hz
    refine AW.skip ?_
    refine .seq <|
      .region ?_
    refine .u rfl rfl rfl (q_buildSl (ds := []) rfl underlying23 sizeOf3 zeroValue3 rfl rfl rfl rfl rfl) ?_
    refine .mP rfl rfl <|
      .nP rfl rfl <|
      .fb rfl f78_0 rfl rfl <|
      .fb rfl f29_1 rfl rfl ?_
    refine .u rfl rfl rfl (q_ia_ab rfl underlying24 sizeOf23 rfl rfl (by decide) (by decide)) ?_
    refine .lb rfl isAgg23 rfl rfl ?_
    refine AOps.s rfl rfl rfl (a_append rfl underlying23 (i := t3) (by kernel_rfl) rfl (n := 1) (by' := 8) rfl rfl rfl rfl (Go.AV.Acc.full rfl) rfl (by simp [cInts]) (by decide) (by omega) (by omega) rfl (fun v2 h2 acc => ?_))
    refine AOps.wkn (T' := put _ 16 (eInts (m.now.lists 8))) (TLe.put (d := 16) (by have := acc.vle; rw [List.nil_append, Nat.zero_add] at this; exact this) (TLe.refl _)) acc.hle ?_
    refine .ln rfl underlying23 rfl <|
      .mI rfl rfl <|
      .nil <|
      .block ?_
    refine AW.loop (fun n T hh => ∃ (k : Nat) , k ≤ (m.now.lists 8).length ∧ n = (m.now.lists 8).length - k ∧ T = put (put (put (put (T0) 18 (V.int .i64 (k : Nat))) 17 (V.int .i64 (m.now.lists 8).length)) 16 (eInts (m.now.lists 8))) 0 (V.ptr id 0) ∧ GA h0 id (m.endL ((m.now.lists 8).take k)) hh) ((m.now.lists 8).length) ?_ ?_
    · skip
      refine Wk.mk (TLe.put (d := 0) (VLe.refl _) (TLe.put (d := 16) (VLe.refl _) (TLe.put (d := 17) (VLe.refl _) (TLe.put (d := 18) (by exact VLe.of_eq (congrArg (V.int .i64) (by first | rfl | omega))) (TLe.zero _))))) (HLe.refl _) ⟨0, Nat.zero_le _, rfl, rfl, by rw [List.take_zero]; exact ⟨_, hm, hI, hS, hp, ve, vp, hr, rfl⟩⟩
    · skip
      rintro n T h' ⟨k, hk, rfl, rfl, hem⟩
      refine .seq <|
        .region <|
        .ql rfl rfl rfl <|
        .nil <|
        .seq ?_
      refine AW.cond rfl (fun c1 => ?_) (fun c1 => ?_)
      · have hltk : k < (m.now.lists 8).length := by have := of_decide_eq_true c1; omega
        refine AW.skip ?_
        refine .seq <|
          .block <|
          .seq <|
          .region ?_
        refine .u rfl rfl rfl (q_ia_s rfl underlying23 sizeOf3 rfl rfl (by omega) (by omega) (cInts_at hltk)) ?_
        refine .li rfl isAgg3 rfl rfl <|
          .aI rfl rfl <|
          .nil <|
          .seq <|
          .region <|
          .mP rfl rfl <|
          .mI rfl rfl ?_
        refine AOps.s rfl rfl rfl ((AStep.call rfl (by exact call50) (ga_set ((m.now.lists 8).getD k 0) 11 0 hem)).mono ?_)
        rintro x8 h8 ⟨rfl, he8⟩
        refine .nil <|
          .region <|
          .mP rfl rfl <|
          .mI rfl rfl ?_
        refine AOps.s rfl rfl rfl ((AStep.call rfl (by exact call50) (ga_set ((m.now.lists 8).getD k 0) 12 0 he8)).mono ?_)
        rintro x9 h9 ⟨rfl, he9⟩
        refine .nil <|
          .region <|
          .ad rfl rfl rfl (by omega) <|
          .mI rfl rfl <|
          .nil ?_
        refine Wk.mk (TLe.put (d := 0) (VLe.refl _) (TLe.put (d := 16) (VLe.refl _) (TLe.put (d := 17) (VLe.refl _) (TLe.put (d := 18) (by exact VLe.of_eq (congrArg (V.int .i64) (by first | rfl | omega))) (TLe.zero _))))) (HLe.refl _) ⟨_, ?_, k + 1, ?_, rfl, rfl, by rw [endL_next hltk]; exact he9⟩
        · omega
        · omega
      · obtain rfl : k = (m.now.lists 8).length := by have := of_decide_eq_false c1; omega
        refine AW.exit ?_
        rw [List.take_length] at hem
        exact retQ.mk .none ⟨rfl, by rw [Em.endF, hst]; exact hem⟩

end Go.Proofs.YtijhmlkffkedeaaGreatDoor
/- Walks: the document's rounds. -/
namespace Go.Proofs.YtijhmlkffkedeaaGreatDoor
open Go Go.AV Go.Proofs.Tryz
set_option maxRecDepth 100000
set_option maxHeartbeats 1000000
theorem state_ok {m : Em} (h : m.err = 0) : m.state = m.now := by unfold Em.state; rw [if_pos h]
end Go.Proofs.YtijhmlkffkedeaaGreatDoor
/- Two emitters in one memory: which was made first does not matter. -/
namespace Go.Proofs.YtijhmlkffkedeaaGreatDoor
open Go Go.AV Go.Proofs.Tryz
set_option maxRecDepth 100000
/-- What is laid into a memory: a row that grows, a box. -/
inductive It where
  | tok (v : V)
  | box (id : Nat) (cs : List V)
def It.add : It → Hp → Hp
  | .tok v, h => addTok v h
  | .box id cs, h => h.setBox id cs
def It.fr : It → Hp → Prop
  | .tok v, h => vFresh v h
  | .box id _, h => h.fresh id
theorem vf_box {v : V} {h : Hp} {i : Nat} {cs : List V} (f : h.fresh i) (fv : vFresh v (h.setBox i cs)) : vFresh v h ∧ (addTok v h).fresh i := by
  unfold vFresh addTok at *
  split
  · rename_i t n len c
    simp only at fv
    have hne : t ≠ i := fun e => by subst e; have := fv.1; simp at this
    exact ⟨⟨by have := fv.1; rwa [Hp.box_setBox_ne _ _ hne] at this, fv.2⟩, ⟨f.1, by rw [Hp.tok_setTok_ne _ _ hne.symm]; exact f.2⟩⟩
  · exact ⟨trivial, f⟩
theorem box_vf {v : V} {h : Hp} {i : Nat} {cs : List V} (fv : vFresh v h) (f : (addTok v h).fresh i) : h.fresh i ∧ vFresh v (h.setBox i cs) := by
  by_cases hv : ∃ t n len cs, v = .sl (.own t) n len cs
  · obtain ⟨t, n, len, c, rfl⟩ := hv
    have hne : t ≠ i := fun e => by subst e; have := f.2; simp [addTok] at this
    exact ⟨⟨f.1, by have := f.2; simp only [addTok] at this; rwa [Hp.tok_setTok_ne _ _ hne.symm] at this⟩, ⟨by rw [Hp.box_setBox_ne _ _ hne]; exact fv.1, fv.2⟩⟩
  · have e : ∀ h, addTok v h = h := fun h => by unfold addTok; split <;> first | rfl | (rename_i t n len cs; exact absurd ⟨t, n, len, cs, rfl⟩ hv)
    refine ⟨by rwa [e] at f, ?_⟩
    unfold vFresh; split <;> first | trivial | (rename_i t n len cs; exact absurd ⟨t, n, len, cs, rfl⟩ hv)
theorem It.swap {a b : It} {h : Hp} (fa : a.fr h) (fb : b.fr (a.add h)) : b.add (a.add h) = a.add (b.add h) ∧ b.fr h ∧ a.fr (b.add h) := by
  cases a with
  | tok v =>
    cases b with
    | tok u =>
      obtain ⟨p, q, r⟩ := tok_swap (u := v) (v := u) fa fb
      exact ⟨p, q, r⟩
    | box i cs => exact ⟨(addTok_setBox _ _ _ _).symm, box_vf (cs := cs) fa fb⟩
  | box i cs =>
    cases b with
    | tok v => exact ⟨addTok_setBox _ _ _ _, vf_box fa fb⟩
    | box j ds =>
      have := fresh_pair (d := ds) fa fb
      exact ⟨Hp.setBox_comm _ _ _ (fresh_ne fb), this.1, this.2⟩
inductive Lay : List It → Hp → Hp → Prop
  | nil (h : Hp) : Lay [] h h
  | cons {a : It} {l : List It} {h h' : Hp} : a.fr h → Lay l (a.add h) h' → Lay (a :: l) h h'
theorem Lay.perm {l l' : List It} (p : l.Perm l') : ∀ {h h' : Hp}, Lay l h h' → Lay l' h h' := by
  induction p with
  | nil => exact fun x => x
  | cons a _ ih =>
    intro h h' x
    cases x with | cons f x => exact .cons f (ih x)
  | swap a b l =>
    intro h h' x
    cases x with | cons f x => cases x with | cons g x =>
    obtain ⟨e, f1, f2⟩ := It.swap f g
    rw [e] at x
    exact .cons f1 (.cons f2 x)
  | trans _ _ i1 i2 => exact fun x => i2 (i1 x)
theorem Lay.append {l l' : List It} : ∀ {h h1 h2 : Hp}, Lay l h h1 → Lay l' h1 h2 → Lay (l ++ l') h h2 := by
  induction l with
  | nil => intro h h1 h2 x y; cases x; exact y
  | cons a l ih => intro h h1 h2 x y; cases x with | cons f x => exact .cons f (ih x y)
theorem Lay.split {l l' : List It} : ∀ {h h2 : Hp}, Lay (l ++ l') h h2 → ∃ h1, Lay l h h1 ∧ Lay l' h1 h2 := by
  induction l with
  | nil => intro h h2 x; exact ⟨h, .nil h, x⟩
  | cons a l ih =>
    intro h h2 x
    cases x with | cons f x =>
    obtain ⟨h1, x1, x2⟩ := ih x
    exact ⟨h1, .cons f x1, x2⟩
theorem Lay.swap {l l' : List It} {h h1 h2 : Hp} (x : Lay l h h1) (y : Lay l' h1 h2) : ∃ h1', Lay l' h h1' ∧ Lay l h1' h2 :=
  (Lay.perm List.perm_append_comm (x.append y)).split
theorem EmAt.lay {h0 h : Hp} {id : Nat} {m : Em} : EmAt h0 id m h ↔ ∃ ve vp, AccV 6 m.evs.length (cEvs m.evs) ve ∧ AccV 3 m.pend.length (cPds m.pend) vp ∧ Lay [.tok vp, .tok ve, .box id (emCells m ve vp)] h0 h := by
  constructor
  · rintro ⟨ve, vp, r, rfl⟩
    exact ⟨ve, vp, r.ae, r.ap, .cons r.fp (.cons r.fe (.cons r.fi (.nil _)))⟩
  · rintro ⟨ve, vp, a, b, x⟩
    cases x with | cons f x => cases x with | cons g x => cases x with | cons k x =>
    cases x
    exact ⟨ve, vp, ⟨a, b, f, g, k⟩, rfl⟩
theorem GAt.lay {h0 h : Hp} {id : Nat} {m : Em} : GAt h0 id m h ↔ ∃ ve vp, AccV 6 m.evs.length (cEvs m.evs) ve ∧ AccV 3 m.pend.length (cPds m.pend) vp ∧ Lay [.tok vp, .tok ve, .box id (gCells m ve vp)] h0 h := by
  constructor
  · rintro ⟨ve, vp, r, rfl⟩
    exact ⟨ve, vp, r.ae, r.ap, .cons r.fp (.cons r.fe (.cons r.fi (.nil _)))⟩
  · rintro ⟨ve, vp, a, b, x⟩
    cases x with | cons f x => cases x with | cons g x => cases x with | cons k x =>
    cases x
    exact ⟨ve, vp, ⟨a, b, f, g, k⟩, rfl⟩
/-- The program's emitter comes first; then the document's comes first. -/
theorem em_ga {h0 h1 h2 : Hp} {i j : Nat} {m g : Em} (x : EmAt h0 i m h1) (y : GA h1 j g h2) : ∃ h', GA h0 j g h' ∧ EmAt h' i m h2 := by
  obtain ⟨ve, vp, a, b, x⟩ := EmAt.lay.1 x
  obtain ⟨g', k1, k2, k3, k4, y⟩ := y
  obtain ⟨ue, up, c, d, y⟩ := GAt.lay.1 y
  obtain ⟨h', y', x'⟩ := x.swap y
  exact ⟨h', ⟨g', k1, k2, k3, k4, GAt.lay.2 ⟨ue, up, c, d, y'⟩⟩, EmAt.lay.2 ⟨ve, vp, a, b, x'⟩⟩
theorem ga_em {h0 h1 h2 : Hp} {i j : Nat} {m g : Em} (y : GA h0 j g h1) (x : EmAt h1 i m h2) : ∃ h', EmAt h0 i m h' ∧ GA h' j g h2 := by
  obtain ⟨ve, vp, a, b, x⟩ := EmAt.lay.1 x
  obtain ⟨g', k1, k2, k3, k4, y⟩ := y
  obtain ⟨ue, up, c, d, y⟩ := GAt.lay.1 y
  obtain ⟨h', x', y'⟩ := y.swap x
  exact ⟨h', EmAt.lay.2 ⟨ve, vp, a, b, x'⟩, ⟨g', k1, k2, k3, k4, GAt.lay.2 ⟨ue, up, c, d, y'⟩⟩⟩
/-- A right state's numbers are small. -/
theorem sm_of {s : St} (h : checkF s = 0) : Sm s := by
  obtain ⟨a, b, c, d⟩ := right_parts h
  have hb := b
  simp only [rangesF, Bool.and_eq_true] at hb
  refine ⟨fun i f hf => ?_, fun p f hp hf => ?_, fun f hf => ?_⟩
  · by_cases hi : i < s.objs.length
    · have h1 := right_obj b hi f hf
      have h2 : -1073741824 ≤ oLo s.objs.length f := by unfold oLo; split <;> omega
      have h3 : oHi s.objs.length f ≤ 1073741824 := by unfold oHi; split <;> omega
      unfold sml; omega
    · rw [List.getD_eq_getElem?_getD, List.getElem?_eq_none (by omega)]; simp [noObj, sml]
  · have h1 := all_up.1 (all_up.1 hb.1.2 p hp) f hf
    have h2 : -1073741824 ≤ pLo f := by unfold pLo; split <;> omega
    have h3 : pHi f ≤ 1073741824 := by unfold pHi; split <;> omega
    simp only [inB, Bool.and_eq_true, decide_eq_true_eq] at h1
    unfold sml; omega
  · have h1 := all_up.1 hb.2 f hf
    have h3 : gHi f ≤ 1073741824 := by unfold gHi; split <;> omega
    simp only [inB, Bool.and_eq_true, decide_eq_true_eq] at h1
    unfold sml; omega
/-- A new emitter of the document's, without draws. -/
theorem rnew_nil (s : St) (hf : Few s) (hb : s.objs.length ≤ 1000000) (hl : ∀ z, (s.lists z).length ≤ 1000000) (h : Hp) : ACalls prog G 16 [eState s, .snil] h fun r h' => ∃ id, r = .ptr id 0 ∧ GA h id (newF s []) h' := by
  refine .args (bs := [eState s, eInts []]) rfl (fun j => match j with | 0 => .refl _ | 1 => .nilimm | _ + 2 => .refl _) ((rnew_calls s [] hb hl h).mono fun r h' ⟨id, e, ha⟩ => ⟨id, e, newF s [], .rfl', ⟨(new_p hf).inv, ?_, ?_⟩, fun e => ?_, ?_, ha⟩)
  · rw [new_eq]; exact hb
  · rw [new_eq]; exact hl
  · rw [new_eq] at e ⊢; exact sm_of e
  · rw [new_eq]; simp
end Go.Proofs.YtijhmlkffkedeaaGreatDoor
/- Walks: does an emitter tell what the document's does? -/
namespace Go.Proofs.YtijhmlkffkedeaaGreatDoor
open Go Go.AV Go.Proofs.Tryz
set_option maxRecDepth 100000
set_option maxHeartbeats 1000000
def evN (x : Ev) : List Int := [x.k, x.a, x.b, x.c, x.d, x.e]
def pdN (x : Pd) : List Int := [x.id, x.ab, x.ctl]
def noPd : Pd := ⟨0, 0, 0⟩
theorem cPds_elem : ∀ {l : List Pd} {i : Nat}, i < l.length → ((cPds l).drop (i * 3)).take 3 = cPd (l.getD i noPd)
  | [], i, h => by simp at h
  | o :: l, 0, _ => rfl
  | o :: l, i + 1, h => by
    have ih := cPds_elem (l := l) (i := i) (by simpa using h)
    show ((cPd o ++ cPds l).drop ((i + 1) * 3)).take 3 = cPd (l.getD i noPd)
    rw [← ih, show (i + 1) * 3 = (cPd o).length + i * 3 by show _ = 3 + i * 3; omega, List.drop_append, List.drop_eq_nil_of_le (by omega)]
    simp
theorem cPds_at {l : List Pd} {i : Nat} (h : i < l.length) : ((cPds l).drop ((i : Int).toNat * 3)).take 3 = cPd (l.getD i noPd) := by
  rw [Int.toNat_natCast]; exact cPds_elem h

theorem numEvents_same (l : List Ev) (hb : l.length ≤ 1000000) (h : Hp) : ACalls prog G 55 [eEvs l, eEvs l] h fun r h' => r = .bool true ∧ h' = h := by
  refine ACalls.enter func55 rfl ntmps55 results55 rfl ?_
  refine .seq <|
    .region <|
    .aB rfl rfl <|
    .nil <|
    .seq <|
    .seq <|
    .region <|
    .mS rfl rfl <|
    .ln rfl underlying70 rfl <|
    .mS rfl rfl <|
    .ln rfl underlying70 rfl <|
    .qn rfl rfl rfl <|
    .nil ?_
  refine AW.cond rfl (fun c0 => ?_) (fun c0 => ?_)
  · simp at c0
  · skip
    refine AW.skip ?_
    refine .seq <|
      .seq <|
      .region <|
      .mS rfl rfl <|
      .ln rfl underlying70 rfl <|
      .mI rfl rfl <|
      .nil <|
      .block ?_
    refine AW.loop (fun n T hh => ∃ (i : Nat) , i ≤ l.length ∧ n = l.length - i ∧ T = put (put (put (put (T0) 13 (V.int .i64 (i : Nat))) 12 (V.int .i64 l.length)) 1 (eEvs l)) 0 (eEvs l) ∧ hh = h) (l.length) ?_ ?_
    · skip
      refine Wk.mk (TLe.put (d := 0) (VLe.refl _) (TLe.put (d := 1) (VLe.refl _) (TLe.put (d := 12) (VLe.refl _) (TLe.put (d := 13) (by exact VLe.of_eq (congrArg (V.int .i64) (by first | rfl | omega))) (TLe.zero _))))) (HLe.refl _) ⟨0, Nat.zero_le _, rfl, rfl, rfl⟩
    · skip
      rintro n T h' ⟨i, hi, rfl, rfl, rfl⟩
      refine .seq <|
        .region <|
        .ql rfl rfl rfl <|
        .nil <|
        .seq ?_
      refine AW.cond rfl (fun c1 => ?_) (fun c1 => ?_)
      · have hlt : i < l.length := by have := of_decide_eq_true c1; omega
        refine AW.skip ?_
        refine .seq <|
          .block <|
          .seq <|
          .region <|
          .mI rfl rfl <|
          .aI rfl rfl <|
          .nil <|
          .seq ?_
        refine AW.draw [] [] [(0, true), (1, true), (2, true), (3, true), (4, true), (5, true), (6, true), (7, true), (8, true)] mixed (by kernel_rfl) rfl (by kernel_rfl) ?_
        refine .q rfl rfl rfl rfl (q_mv rfl (rfl : _ = V.sl _ _ _ _)) ?_
        refine .q rfl rfl rfl rfl (q_mv rfl (rfl : _ = V.int _ _)) ?_
        refine .q rfl rfl rfl rfl (q_ia_s rfl underlying70 sizeOf129 rfl rfl (by omega) (by omega) (cEvs_at hlt)) ?_
        refine .q rfl rfl rfl rfl (q_load_iW rfl isAgg129 sizeOf129 rfl (by rfl)) ?_
        refine .q rfl rfl rfl rfl (q_mv rfl (rfl : _ = V.sl _ _ _ _)) ?_
        refine .q rfl rfl rfl rfl (q_mv rfl (rfl : _ = V.int _ _)) ?_
        refine .q rfl rfl rfl rfl (q_ia_s rfl underlying70 sizeOf129 rfl rfl (by omega) (by omega) (cEvs_at hlt)) ?_
        refine .q rfl rfl rfl rfl (q_load_iW rfl isAgg129 sizeOf129 rfl (by rfl)) ?_
        refine .q rfl rfl rfl rfl (q_neI (EqI.struct isAgg129 underlying129 sizeOf129 (by kernel_rfl) isAgg3 underlying3 rfl (fun j hj => match j, hj with | 0, _ => ⟨rfl, rfl, by simp⟩ | 1, _ => ⟨rfl, rfl, by simp⟩ | 2, _ => ⟨rfl, rfl, by simp⟩ | 3, _ => ⟨rfl, rfl, by simp⟩ | 4, _ => ⟨rfl, rfl, by simp⟩ | 5, _ => ⟨rfl, rfl, by simp⟩)) isAgg129 sizeOf129 (by kernel_rfl) rfl (a := evN (l.getD i noEv)) (b := evN (l.getD i noEv)) rfl rfl rfl rfl) ?_
        refine AOrd.nil ?_
        refine AW.cond rfl (fun c2 => ?_) (fun c2 => ?_)
        · simp at c2
        · skip
          refine AW.skip ?_
          refine .region <|
            .ad rfl rfl rfl (by omega) <|
            .mI rfl rfl <|
            .nil ?_
          refine Wk.mk (TLe.put (d := 0) (VLe.refl _) (TLe.put (d := 1) (VLe.refl _) (TLe.put (d := 12) (VLe.refl _) (TLe.put (d := 13) (by exact VLe.of_eq (congrArg (V.int .i64) (by first | rfl | omega))) (TLe.zero _))))) (HLe.refl _) ⟨_, ?_, i + 1, ?_, rfl, rfl, rfl⟩
          · omega
          · omega
      · obtain rfl : i = l.length := by have := of_decide_eq_false c1; omega
        refine AW.exit ?_
        refine .seq <|
          .region <|
          .aB rfl rfl <|
          .nil ?_
        refine AW.ret ?_
        exact retQ.mk' (.one _) (VLe.of_eq (congrArg V.bool (rfl))) (HLe.refl _) ⟨rfl, rfl⟩

theorem is_calls {m g : Em} {ve vp ve2 vp2 : V} {idm idg : Nat} {h : Hp} (hm : h.box idm = some (emCells m ve vp)) (hg : h.box idg = some (gCells g ve2 vp2)) (ae : AccV 6 m.evs.length (cEvs m.evs) ve) (ap : AccV 3 m.pend.length (cPds m.pend) vp)
    (ae2 : AccV 6 g.evs.length (cEvs g.evs) ve2) (ap2 : AccV 3 g.pend.length (cPds g.pend) vp2) (hM : Mt m g) (hI : EmI m) (hp : m.pend.length ≤ 1000000) : ACalls prog G 19 [.ptr idm 0, .ptr idg 0] h fun r h' => r = .bool true ∧ h' = h := by
  have hev : m.evs.length ≤ 1000000 := by have := hI.evs; omega
  refine ACalls.enter func19 rfl ntmps19 results19 rfl ?_
  refine .seq <|
    .region <|
    .aB rfl rfl <|
    .nil <|
    .seq <|
    .seq ?_
  refine AW.draw [] [] [(0, true), (1, true), (2, true), (3, true), (4, true), (5, true), (6, true), (7, true)] mixed (by kernel_rfl) rfl (by kernel_rfl) ?_
  refine .q rfl rfl rfl rfl (q_mv rfl (rfl : _ = V.ptr _ _)) ?_
  refine .q rfl rfl rfl rfl (QOp.call rfl (by exact call29) fun h' hl' => by exact err_calls (hl'.box _ _ hm)) ?_
  refine .q rfl rfl rfl rfl (QOp.call rfl (by exact call51) fun h' hl' => by exact num_calls m.err h') ?_
  refine .q rfl rfl rfl rfl (q_mv rfl (rfl : _ = V.ptr _ _)) ?_
  refine .q rfl rfl rfl rfl (q_nc rfl (rfl : _ = V.ptr _ _) rfl) ?_
  refine .q rfl rfl rfl rfl (q_fa_b rfl underlying78 rfl (by exact sizeOf3) (by decide) rfl (rfl : _ = 40)) ?_
  refine .q rfl rfl rfl rfl (q_load_b1 rfl isAgg3 rfl (by exact hg) rfl) ?_
  refine .q rfl rfl rfl rfl (q_ne rfl rfl rfl) ?_
  refine AOrd.nil ?_
  refine AW.cond rfl (fun c0 => ?_) (fun c0 => ?_)
  · rw [hM.err] at c0; simp at c0
  · skip
    refine AW.skip ?_
    refine .seq <|
      .seq <|
      .region <|
      .mP rfl rfl <|
      .nP rfl rfl <|
      .fb rfl f78_40 rfl rfl ?_
    refine .u rfl rfl rfl (q_load_b1 rfl isAgg3 rfl (by exact hg) rfl) ?_
    refine .qn rfl rfl rfl <|
      .nil ?_
    refine AW.cond rfl (fun c1 => ?_) (fun c1 => ?_)
    · have hne : m.err ≠ 0 := by rw [hM.err]; simpa using c1
      have hel : m.events.length = 0 := by unfold Em.events; rw [if_neg hne]; rfl
      have hpl : m.pending.length = 0 := by unfold Em.pending; rw [if_neg hne]; rfl
      refine .seq <|
        .region <|
        .mP rfl rfl ?_
      refine .u rfl rfl rfl (QOp.call rfl call52 fun h' hl' => by exact events_calls (hl'.box _ _ hm) ae hev) ?_
      refine .ln rfl underlying70 rfl <|
        .mP rfl rfl ?_
      refine .u rfl rfl rfl (QOp.call rfl call53 fun h' hl' => by exact pending_calls (hl'.box _ _ hm) ap hp) ?_
      refine .ln rfl underlying71 rfl <|
        .ad rfl rfl rfl (by omega) <|
        .qe rfl rfl rfl <|
        .mB rfl rfl ?_
      refine .gt rfl rfl rfl (fun _ => tl0) (fun hc => q_mv rfl (rfl : _ = V.ptr _ _)) ?_
      refine .gt rfl rfl rfl (fun hc => tl1 29 (.opt hc)) (fun hc => QOp.call rfl (by exact call30) fun h' hl' => by exact state_calls (hl'.box _ _ hm) hI.st) ?_
      refine .gt rfl rfl rfl (fun _ => tl0) (fun hc => q_buildS (ds := zState) rfl zeroValue29 underlying29 (pl29 underlying29) rfl (by kernel_rfl)) ?_
      refine .gt rfl rfl rfl (fun hc => tl2 31 30 (.opt hc) (.opt hc)) (fun hc => QOp.call rfl (by exact call54) fun h' hl' => by exact ACalls.args (bs := [eState m.state, eState noSt]) rfl (fun j => match j with | 0 => .refl _ | 1 => zState_le.agg | j + 2 => .refl _) (states_calls m.state noSt hI.st2.2 hI.st2.1 h')) ?_
      refine .pt rfl rfl rfl rfl <|
        .aB rfl rfl <|
        .nil ?_
      refine AW.ret ?_
      exact retQ.mk' (.one _) (VLe.of_eq (congrArg V.bool (by have a : m.events = [] := (by unfold Em.events; rw [if_neg hne]); have b : m.pending = [] := (by unfold Em.pending; rw [if_neg hne]); have c : m.state = noSt := (by unfold Em.state; rw [if_neg hne]); simp [a, b, c, statesF_refl]))) (HLe.refl _) ⟨rfl, rfl⟩
    · have hz : m.err = 0 := by rw [hM.err]; simpa using c1
      have hmg := hM.same hz
      subst hmg
      have hP : m.pending = m.pend := by unfold Em.pending; rw [if_pos hz]
      have hE : m.events = m.evs := by unfold Em.events; rw [if_pos hz]
      have hS : m.state = m.now := state_ok hz
      have hst := hI.st hz
      refine AW.skip ?_
      refine .seq <|
        .region <|
        .mP rfl rfl ?_
      refine .u rfl rfl rfl (QOp.call (x := ePds m.pend) rfl (by exact call53) fun h' hl' => by rw [← hP]; exact pending_calls (hl'.box _ _ hm) ap hp) ?_
      refine .aS rfl rfl <|
        .nil <|
        .seq <|
        .seq ?_
      refine AW.draw [] [] [(0, true), (1, true), (2, true), (3, true), (4, true), (5, true), (6, true), (7, true), (8, true), (9, true), (10, true), (11, true), (12, true), (13, true), (14, true), (15, true), (16, true), (17, true), (18, true), (19, true), (20, true), (21, true), (22, true), (23, true), (24, true), (25, true), (26, true), (27, true)] mixed (by kernel_rfl) rfl (by kernel_rfl) ?_
      refine .q rfl rfl rfl rfl (q_mv rfl (rfl : _ = V.sl _ _ _ _)) ?_
      refine .q rfl rfl rfl rfl (q_len rfl underlying71 rfl) ?_
      refine .q rfl rfl rfl rfl (q_mv rfl (rfl : _ = V.ptr _ _)) ?_
      refine .q rfl rfl rfl rfl (q_nc rfl (rfl : _ = V.ptr _ _) rfl) ?_
      refine .q rfl rfl rfl rfl (q_fa_b rfl underlying78 rfl (by exact sizeOf76) (by decide) rfl (rfl : _ = 39)) ?_
      refine .q rfl rfl rfl rfl ((q_load_b1 rfl isAgg76 rfl (by exact hg) rfl).vle ap2.imm) ?_
      refine .q rfl rfl rfl rfl (q_len rfl underlying76 rfl) ?_
      refine .q rfl rfl rfl rfl (q_ne rfl rfl rfl) ?_
      refine .q rfl rfl rfl rfl (q_mv rfl (rfl : _ = V.bool _)) ?_
      refine AOrd.g rfl rfl (wanted_f rfl rfl) rfl (fun _ => tl0) (fun hc => q_mv rfl (rfl : _ = V.ptr _ _)) ?_
      refine AOrd.g rfl rfl (wanted_f rfl rfl) rfl (fun hc => tl1 45 (.opt hc)) (fun hc => QOp.call (x := eEvs m.evs) rfl (by exact call52) fun h' hl' => by rw [← hE]; exact events_calls (hl'.box _ _ hm) ae hev) ?_
      refine AOrd.g rfl rfl (wanted_f rfl rfl) rfl (fun _ => tl0) (fun hc => q_mv rfl (rfl : _ = V.ptr _ _)) ?_
      refine AOrd.g rfl rfl (wanted_f rfl rfl) rfl (fun hc => tl1 47 (.opt hc)) (fun hc => q_nc rfl (rfl : _ = V.ptr _ _) rfl) ?_
      refine AOrd.g rfl rfl (wanted_f rfl rfl) rfl (fun hc => tl1 48 (.opt hc)) (fun hc => q_fa_b rfl underlying78 rfl (by exact sizeOf70) (by decide) rfl (rfl : _ = 38)) ?_
      refine AOrd.g rfl rfl (wanted_f rfl rfl) rfl (fun hc => tl1 49 (.opt hc)) (fun hc => (q_load_b1 rfl isAgg70 rfl (by exact hg) rfl).vle ae2.imm) ?_
      refine AOrd.g rfl rfl (wanted_f rfl rfl) rfl (fun hc => tl2 50 46 (.opt hc) (.opt hc)) (fun hc => QOp.call rfl (by exact call55) fun h' hl' => by exact numEvents_same m.evs hev h') ?_
      refine AOrd.g rfl rfl (wanted_f rfl rfl) rfl (fun hc => tl1 51 (.opt hc)) (fun hc => q_not rfl rfl) ?_
      refine .q rfl rfl rfl rfl (q_pickg rfl rfl (fun hp => by exact VLe.refl _) (fun hp => by first | exact VLe.opt hp | exact VLe.opt (by rw [hp]; rfl) | exact VLe.opt (by simp_all))) ?_
      refine .q rfl rfl rfl rfl (q_mv rfl (rfl : _ = V.bool _)) ?_
      refine AOrd.g rfl rfl (wanted_f rfl rfl) rfl (fun _ => tl0) (fun hc => q_mv rfl (rfl : _ = V.ptr _ _)) ?_
      refine AOrd.g rfl rfl (wanted_f rfl rfl) rfl (fun hc => tl1 55 (.opt hc)) (fun hc => QOp.call (x := eState m.now) rfl (by exact call30) fun h' hl' => by rw [← hS]; exact state_calls (hl'.box _ _ hm) hI.st) ?_
      refine AOrd.g rfl rfl (wanted_f rfl rfl) rfl (fun _ => tl0) (fun hc => q_mv rfl (rfl : _ = V.ptr _ _)) ?_
      refine AOrd.g rfl rfl (wanted_f rfl rfl) rfl (fun hc => tl1 57 (.opt hc)) (fun hc => q_nc rfl (rfl : _ = V.ptr _ _) rfl) ?_
      refine AOrd.g rfl rfl (wanted_f rfl rfl) rfl (fun hc => tl1 58 (.opt hc)) (fun hc => q_fa_b rfl underlying78 rfl (by exact sizeOf29) (by decide) rfl (rfl : _ = 0)) ?_
      refine AOrd.g rfl rfl (wanted_f rfl rfl) rfl (fun hc => tl1 59 (.opt hc)) (fun hc => q_load_bN (ds := cState m.now) rfl isAgg29 sizeOf29 (by decide) rfl (by exact hg) rfl rfl) ?_
      refine AOrd.g rfl rfl (wanted_f rfl rfl) rfl (fun hc => tl2 60 56 (.opt hc) (.opt hc)) (fun hc => QOp.call rfl (by exact call54) fun h' hl' => by exact states_calls m.now m.now hst.2 hst.1 h') ?_
      refine AOrd.g rfl rfl (wanted_f rfl rfl) rfl (fun hc => tl1 61 (.opt hc)) (fun hc => q_not rfl rfl) ?_
      refine .q rfl rfl rfl rfl (q_pickg rfl rfl (fun hp => by exact VLe.refl _) (fun hp => by first | exact VLe.opt hp | exact VLe.opt (by rw [hp]; rfl) | exact VLe.opt (by simp_all))) ?_
      refine AOrd.nil ?_
      refine AW.cond rfl (fun c2 => ?_) (fun c2 => ?_)
      · simp [statesF_refl] at c2
      · skip
        refine AW.skip ?_
        refine .seq <|
          .seq <|
          .region <|
          .mS rfl rfl <|
          .ln rfl underlying71 rfl <|
          .mI rfl rfl <|
          .nil <|
          .block ?_
        refine AW.loop (fun n T hh => ∃ (i : Nat) , i ≤ m.pend.length ∧ n = m.pend.length - i ∧ T = put (put (put (put (T0) 66 (V.int .i64 (i : Nat))) 65 (V.int .i64 m.pend.length)) 5 (ePds m.pend)) 1 (V.ptr idg 0) ∧ hh = h) (m.pend.length) ?_ ?_
        · skip
          refine Wk.mk (TLe.put (d := 1) (VLe.refl _) (TLe.put (d := 5) (VLe.refl _) (TLe.put (d := 65) (VLe.refl _) (TLe.put (d := 66) (by exact VLe.of_eq (congrArg (V.int .i64) (by first | rfl | omega))) (TLe.zero _))))) (HLe.refl _) ⟨0, Nat.zero_le _, rfl, rfl, rfl⟩
        · skip
          rintro n T h' ⟨i, hi, rfl, rfl, rfl⟩
          refine .seq <|
            .region <|
            .ql rfl rfl rfl <|
            .nil <|
            .seq ?_
          refine AW.cond rfl (fun c3 => ?_) (fun c3 => ?_)
          · have hlt : i < m.pend.length := by have := of_decide_eq_true c3; omega
            refine AW.skip ?_
            refine .seq <|
              .block <|
              .seq <|
              .region <|
              .mI rfl rfl <|
              .aI rfl rfl <|
              .nil <|
              .seq ?_
            refine AW.draw [] [] [(0, true), (1, true), (2, true), (3, true), (4, true), (5, true), (6, true), (7, true), (8, true), (9, true), (10, true), (11, true)] mixed (by kernel_rfl) rfl (by kernel_rfl) ?_
            refine .q rfl rfl rfl rfl (q_mv rfl (rfl : _ = V.sl _ _ _ _)) ?_
            refine .q rfl rfl rfl rfl (q_mv rfl (rfl : _ = V.int _ _)) ?_
            refine .q rfl rfl rfl rfl (q_ia_s rfl underlying71 sizeOf88 rfl rfl (by omega) (by omega) (cPds_at hlt)) ?_
            refine .q rfl rfl rfl rfl (q_load_iW rfl isAgg88 sizeOf88 rfl (by rfl)) ?_
            refine .q rfl rfl rfl rfl (q_mv rfl (rfl : _ = V.ptr _ _)) ?_
            refine .q rfl rfl rfl rfl (q_nc rfl (rfl : _ = V.ptr _ _) rfl) ?_
            refine .q rfl rfl rfl rfl (q_fa_b rfl underlying78 rfl (by exact sizeOf76) (by decide) rfl (rfl : _ = 39)) ?_
            refine .q rfl rfl rfl rfl ((q_load_b1 rfl isAgg76 rfl (by exact hg) rfl).vle ap2.imm) ?_
            refine .q rfl rfl rfl rfl (q_mv rfl (rfl : _ = V.int _ _)) ?_
            refine .q rfl rfl rfl rfl (q_ia_s rfl underlying76 sizeOf89 rfl rfl (by omega) (by omega) (cPds_at hlt)) ?_
            refine .q rfl rfl rfl rfl (q_load_iW rfl isAgg89 sizeOf89 rfl (by rfl)) ?_
            refine .q rfl rfl rfl rfl (q_neI (EqI.struct isAgg88 underlying88 sizeOf88 (by kernel_rfl) isAgg3 underlying3 rfl (fun j hj => match j, hj with | 0, _ => ⟨rfl, rfl, by simp⟩ | 1, _ => ⟨rfl, rfl, by simp⟩ | 2, _ => ⟨rfl, rfl, by simp⟩)) isAgg88 sizeOf88 (by kernel_rfl) rfl (a := pdN (m.pend.getD i noPd)) (b := pdN (m.pend.getD i noPd)) rfl rfl rfl rfl) ?_
            refine AOrd.nil ?_
            refine AW.cond rfl (fun c4 => ?_) (fun c4 => ?_)
            · simp at c4
            · skip
              refine AW.skip ?_
              refine .region <|
                .ad rfl rfl rfl (by omega) <|
                .mI rfl rfl <|
                .nil ?_
              refine Wk.mk (TLe.put (d := 1) (VLe.refl _) (TLe.put (d := 5) (VLe.refl _) (TLe.put (d := 65) (VLe.refl _) (TLe.put (d := 66) (by exact VLe.of_eq (congrArg (V.int .i64) (by first | rfl | omega))) (TLe.zero _))))) (HLe.refl _) ⟨_, ?_, i + 1, ?_, rfl, rfl, rfl⟩
              · omega
              · omega
          · obtain rfl : i = m.pend.length := by have := of_decide_eq_false c3; omega
            refine AW.exit ?_
            refine .seq <|
              .region <|
              .aB rfl rfl <|
              .nil ?_
            refine AW.ret ?_
            exact retQ.mk' (.one _) (VLe.of_eq (congrArg V.bool (rfl))) (HLe.refl _) ⟨rfl, rfl⟩

end Go.Proofs.YtijhmlkffkedeaaGreatDoor
/- Walks: calls of emitters that do nothing more. -/
namespace Go.Proofs.YtijhmlkffkedeaaGreatDoor
open Go Go.AV Go.Proofs.Tryz
set_option maxRecDepth 100000
set_option maxHeartbeats 1000000

theorem dstate_calls {p : V} {e : Int} {h : Hp} (hd : Dead p e h) : ACalls prog G 30 [p] h fun r h' => r = eState noSt ∧ h' = h := by
  refine ACalls.enter func30 rfl ntmps30 results30 rfl ?_
  refine .seq <|
    .region ?_
  refine AOps.s rfl rfl rfl (a_alloc rfl zeroValue29 rfl (fun id2 hid2 => ?_))
  refine .nil <|
    .seq <|
    .seq ?_
  have hd2 := hd.le (HLe.setBox (cs := zState) hid2.1)
  refine .region ?_
  refine .u rfl rfl rfl (q_mv rfl (rfl : _ = p)) ?_
  refine .u rfl rfl rfl (QOp.call rfl call29 fun h' hl' => by exact derr_calls (hd2.le hl')) ?_
  refine .u rfl rfl rfl (q_neerr underlying54 rfl rfl) ?_
  refine .nil ?_
  refine AW.cond rfl (fun c0 => ?_) (fun c0 => ?_)
  · skip
    refine .seq <|
      .region ?_
    refine .u rfl rfl rfl (q_buildS (ds := zState) rfl zeroValue29 underlying29 (pl29 underlying29) rfl (by kernel_rfl)) ?_
    refine .sw sizeOf29 rfl rfl rfl rfl <|
      .nil ?_
    refine AW.ret ?_
    exact retQ.mk' (Res.cellB isAgg29 sizeOf29 rfl (by exact bsb) rfl) zState_le.agg (.setBox hid2.1) ⟨rfl, rfl⟩
  · simp [hd.ne] at c0

/-- An act. -/
structure Act where
  k : Int
  a : Int
  b : Int
  c : Int
end Go.Proofs.YtijhmlkffkedeaaGreatDoor
/- Walks: the law's fixed fact; fights of no emitter. -/
namespace Go.Proofs.YtijhmlkffkedeaaGreatDoor
open Go Go.AV Go.Proofs.Tryz
set_option maxRecDepth 100000
set_option maxHeartbeats 1000000
def strikeA : Obj := fun f => match f with | 0 => 116 | 3 => 8 | 10 => 64 | 11 => 1 | _ => 0
def strikeB : Obj := fun f => match f with | 0 => 112 | 1 => 1 | 2 => 1 | 3 => 8 | 12 => 1 | _ => 0
def strikeSt : St := ⟨[strikeA, strikeB], fun z => if z = 8 then [0, 1] else [], fun _ _ => 0, fun _ => 0⟩
def strike3 : List Hit := [⟨0, 2, 1⟩, ⟨0, -2, 2⟩, ⟨1, 1, 1⟩]
def hitN (x : Hit) : List Int := [x.f, x.t, x.n]
theorem hit_ext {a b : Hit} (h : hitN a = hitN b) : a = b := by
  cases a; cases b; simp [hitN] at h; simp [h]
theorem strike_is : (strikesF strikeSt).map hitN = strike3.map hitN := by decide +kernel
theorem strike_eq : strikesF strikeSt = strike3 := by
  have h := strike_is
  refine List.ext_getElem (by simpa using congrArg List.length h) fun i h1 h2 => hit_ext ?_
  have := congrArg (fun l => l[i]?) h
  simpa [h1, h2] using this
theorem strike_le : VLe (V.agg ([V.sl .full 18 2 (cObj strikeA ++ cObj strikeB), .snil, .snil, .snil, .snil, .snil, .snil, .snil, .snil, V.sl .full 1 2 [.int .i64 0, .int .i64 1], .snil, .snil] ++ (cState strikeSt).drop 12)) (eState strikeSt) := by
  refine LLe.agg (LLe.append (d := (cState strikeSt).drop 12) (b := (cState strikeSt).take 12) ?_ (LLe.refl _))
  exact .cons .fullimm (.cons .nilimm (.cons .nilimm (.cons .nilimm (.cons .nilimm (.cons .nilimm (.cons .nilimm (.cons .nilimm (.cons .nilimm (.cons .fullimm (.cons .nilimm (.cons .nilimm .nil)))))))))))
theorem nil_dead (h : Hp) : Dead .pnil 4 h := ⟨by decide, .inl ⟨rfl, rfl⟩⟩
theorem noSt_small : noSt.objs.length ≤ 1000000 ∧ ∀ z, (noSt.lists z).length ≤ 1000000 := ⟨by decide, fun z => by simp [noSt]⟩

theorem alive24_calls (h : Hp) : ACalls prog G 6 [] h fun r h' => r = .bool true ∧ h' = h := by
  refine ACalls.enter func6 rfl ntmps6 results6 rfl ?_
  refine .seq <|
    .region <|
    .aB rfl rfl <|
    .nil <|
    .seq <|
    .region ?_
  refine .u rfl rfl rfl (q_buildA (ds := cObj strikeA) rfl zeroValue58 underlying58 sizeOf3 rfl (by kernel_rfl)) ?_
  refine .u rfl rfl rfl (q_buildA (ds := cObj strikeB) rfl zeroValue58 underlying58 sizeOf3 rfl (by kernel_rfl)) ?_
  refine .u rfl rfl rfl (q_buildSl rfl underlying22 sizeOf58 zeroValue58 rfl rfl rfl rfl rfl) ?_
  refine .u rfl rfl rfl (q_buildS (ds := [V.sl .full 18 2 (cObj strikeA ++ cObj strikeB), .snil, .snil, .snil, .snil, .snil, .snil, .snil, .snil, .snil, .snil, .snil] ++ zState.drop 12) rfl zeroValue29 underlying29 (pl29 underlying29) rfl (by kernel_rfl)) ?_
  refine AOps.s rfl rfl rfl (a_alloc rfl zeroValue29 rfl (fun id1 hid1 => ?_))
  refine .sw sizeOf29 rfl rfl rfl rfl <|
    .nil <|
    .seq <|
    .region ?_
  refine .u rfl rfl rfl (q_buildSl rfl underlying23 sizeOf3 zeroValue3 rfl rfl rfl rfl rfl) ?_
  refine .fb rfl f29_1 rfl rfl ?_
  refine .u rfl rfl rfl (q_ia_ab rfl underlying24 sizeOf23 rfl rfl (by decide) (by decide)) ?_
  refine AOps.s0 rfl rfl (a_store1 rfl sizeOf23 rfl (by exact bsb) (rfl : _ = V.sl _ _ _ _) rfl rfl (by first | decide | exact Nat.le_of_ble_eq_true rfl) ?_)
  refine .nil <|
    .seq ?_
  rw [Hp.setBox_setBox]
  refine AW.done 1 rfl hid1 ?_
  refine .region <|
    .lw rfl isAgg29 sizeOf29 rfl rfl ?_
  refine AOps.wkn (T' := put _ 10 (eState strikeSt)) (TLe.put (d := 10) (by exact strike_le) (TLe.refl _)) (HLe.refl _) ?_
  refine .u rfl rfl rfl (QOp.call (x := V.sl .imm 3 3 (cHits strike3)) rfl (by exact call8) fun h' hl' => by rw [show V.sl .imm 3 3 (cHits strike3) = eHits (strikesF strikeSt) by rw [strike_eq]; rfl]; exact strikes_calls strikeSt (by decide) (fun z => by by_cases e : z = 8 <;> simp [strikeSt, e]) h') ?_
  refine .aS rfl rfl <|
    .nil <|
    .seq <|
    .region <|
    .mS rfl rfl <|
    .ln rfl underlying32 rfl <|
    .qe rfl rfl rfl <|
    .mB rfl rfl ?_
  refine .gt rfl rfl rfl (fun _ => tl0) (fun hc => q_mv rfl (rfl : _ = V.sl _ _ _ _)) ?_
  refine .gt rfl rfl rfl (fun hc => tl1 16 (.opt hc)) (fun hc => q_ia_s rfl underlying32 sizeOf40 rfl rfl (by decide) (by decide) (show ((cHits strike3).drop (Int.toNat 0 * 3)).take 3 = cHit ⟨0, 2, 1⟩ from rfl)) ?_
  refine .gt rfl rfl rfl (fun hc => tl1 17 (.opt hc)) (fun hc => q_load_iW rfl isAgg40 sizeOf40 rfl (by rfl)) ?_
  refine .gt rfl rfl rfl (fun _ => tl0) (fun hc => q_buildS (ds := cHit ⟨0, 2, 1⟩) rfl zeroValue40 underlying40 (pl40 underlying40) rfl (by kernel_rfl)) ?_
  refine .gt rfl rfl rfl (fun hc => tl2 19 18 (.opt hc) (.opt hc)) (fun hc => q_eqI (EqI.struct isAgg40 underlying40 sizeOf40 (by kernel_rfl) isAgg3 underlying3 rfl (fun j hj => match j, hj with | 0, _ => ⟨rfl, rfl, by simp⟩ | 1, _ => ⟨rfl, rfl, by simp⟩ | 2, _ => ⟨rfl, rfl, by simp⟩)) isAgg40 sizeOf40 (by kernel_rfl) rfl (a := [0, 2, 1]) (b := [0, 2, 1]) rfl rfl rfl rfl) ?_
  refine .pt rfl rfl rfl rfl <|
    .mB rfl rfl ?_
  refine .gt rfl rfl rfl (fun _ => tl0) (fun hc => q_mv rfl (rfl : _ = V.sl _ _ _ _)) ?_
  refine .gt rfl rfl rfl (fun hc => tl1 23 (.opt hc)) (fun hc => q_ia_s rfl underlying32 sizeOf40 rfl rfl (by decide) (by decide) (show ((cHits strike3).drop (Int.toNat 1 * 3)).take 3 = cHit ⟨0, -2, 2⟩ from rfl)) ?_
  refine .gt rfl rfl rfl (fun hc => tl1 24 (.opt hc)) (fun hc => q_load_iW rfl isAgg40 sizeOf40 rfl (by rfl)) ?_
  refine .gt rfl rfl rfl (fun _ => tl0) (fun hc => q_buildS (ds := cHit ⟨0, -2, 2⟩) rfl zeroValue40 underlying40 (pl40 underlying40) rfl (by kernel_rfl)) ?_
  refine .gt rfl rfl rfl (fun hc => tl2 26 25 (.opt hc) (.opt hc)) (fun hc => q_eqI (EqI.struct isAgg40 underlying40 sizeOf40 (by kernel_rfl) isAgg3 underlying3 rfl (fun j hj => match j, hj with | 0, _ => ⟨rfl, rfl, by simp⟩ | 1, _ => ⟨rfl, rfl, by simp⟩ | 2, _ => ⟨rfl, rfl, by simp⟩)) isAgg40 sizeOf40 (by kernel_rfl) rfl (a := [0, -2, 2]) (b := [0, -2, 2]) rfl rfl rfl rfl) ?_
  refine .pt rfl rfl rfl rfl <|
    .mB rfl rfl ?_
  refine .gt rfl rfl rfl (fun _ => tl0) (fun hc => q_mv rfl (rfl : _ = V.sl _ _ _ _)) ?_
  refine .gt rfl rfl rfl (fun hc => tl1 30 (.opt hc)) (fun hc => q_ia_s rfl underlying32 sizeOf40 rfl rfl (by decide) (by decide) (show ((cHits strike3).drop (Int.toNat 2 * 3)).take 3 = cHit ⟨1, 1, 1⟩ from rfl)) ?_
  refine .gt rfl rfl rfl (fun hc => tl1 31 (.opt hc)) (fun hc => q_load_iW rfl isAgg40 sizeOf40 rfl (by rfl)) ?_
  refine .gt rfl rfl rfl (fun _ => tl0) (fun hc => q_buildS (ds := cHit ⟨1, 1, 1⟩) rfl zeroValue40 underlying40 (pl40 underlying40) rfl (by kernel_rfl)) ?_
  refine .gt rfl rfl rfl (fun hc => tl2 33 32 (.opt hc) (.opt hc)) (fun hc => q_eqI (EqI.struct isAgg40 underlying40 sizeOf40 (by kernel_rfl) isAgg3 underlying3 rfl (fun j hj => match j, hj with | 0, _ => ⟨rfl, rfl, by simp⟩ | 1, _ => ⟨rfl, rfl, by simp⟩ | 2, _ => ⟨rfl, rfl, by simp⟩)) isAgg40 sizeOf40 (by kernel_rfl) rfl (a := [1, 1, 1]) (b := [1, 1, 1]) rfl rfl rfl rfl) ?_
  refine .pt rfl rfl rfl rfl <|
    .aB rfl rfl <|
    .nil ?_
  refine AW.ret ?_
  exact retQ.mk' (.one _) (VLe.of_eq (congrArg V.bool (by decide))) (HLe.refl _) ⟨rfl, rfl⟩

theorem strikeNil_calls (h : Hp) : ACalls prog G 17 [.pnil] h fun r h' => r = .tup [] ∧ h' = h := by
  refine ACalls.enter func17 rfl ntmps17 results17 rfl ?_
  refine .seq <|
    .region ?_
  refine .u rfl rfl rfl (q_mv rfl (rfl : _ = V.pnil)) ?_
  refine .u rfl rfl rfl (QOp.call rfl call30 fun h' hl' => by exact dstate_calls (nil_dead h')) ?_
  refine AOps.s rfl rfl rfl (a_alloc rfl zeroValue29 rfl (fun id2 hid2 => ?_))
  refine .sw sizeOf29 rfl rfl rfl rfl ?_
  refine AOps.done 2 rfl hid2 ?_
  refine .nil <|
    .seq <|
    .region <|
    .lw rfl isAgg29 sizeOf29 rfl rfl ?_
  refine .u rfl rfl rfl (QOp.call (x := eHits []) rfl (by exact call8) fun h' hl' => by rw [← strikes_no]; exact strikes_calls noSt noSt_small.1 noSt_small.2 h') ?_
  refine .ln rfl underlying32 rfl <|
    .mI rfl rfl <|
    .nil <|
    .block ?_
  refine AW.loop (fun n T hh => ∃ (i : Nat) , i ≤ 0 ∧ n = 0 - i ∧ T = put (put (put (T0) 10 (V.int .i64 (i : Nat))) 9 (V.int .i64 (0 : Nat))) 8 (eHits []) ∧ hh = h) (0) ?_ ?_
  · skip
    refine Wk.mk (TLe.put (d := 8) (VLe.refl _) (TLe.put (d := 9) (VLe.refl _) (TLe.put (d := 10) (by exact VLe.of_eq (congrArg (V.int .i64) (by first | rfl | omega))) (TLe.zero _)))) (HLe.refl _) ⟨0, Nat.zero_le _, rfl, rfl, rfl⟩
  · skip
    rintro n T h' ⟨i, hi, rfl, rfl, rfl⟩
    refine .seq <|
      .region <|
      .ql rfl rfl rfl <|
      .nil <|
      .seq ?_
    refine AW.cond rfl (fun c0 => ?_) (fun c0 => ?_)
    · have hlt : i < 0 := by have := of_decide_eq_true c0; omega
      omega
    · obtain rfl : i = 0 := by have := of_decide_eq_false c0; omega
      refine AW.exit ?_
      exact retQ.mk' .none (VLe.refl _) (HLe.refl _) ⟨rfl, rfl⟩

theorem endNil_calls (h : Hp) : ACalls prog G 20 [.pnil] h fun r h' => r = .tup [] ∧ h' = h := by
  refine ACalls.enter func20 rfl ntmps20 results20 rfl ?_
  refine .seq <|
    .region ?_
  refine .u rfl rfl rfl (q_mv rfl (rfl : _ = V.pnil)) ?_
  refine .u rfl rfl rfl (QOp.call rfl call30 fun h' hl' => by exact dstate_calls (nil_dead h')) ?_
  refine .u rfl rfl rfl (q_fN rfl underlying29 rfl (by exact isAgg24) (by exact sizeOf24) rfl rfl) ?_
  refine .u rfl rfl rfl (q_ix1 rfl underlying24 sizeOf23 isAgg23 rfl rfl (by decide) (by decide) rfl) ?_
  refine .ln rfl underlying23 rfl <|
    .mI rfl rfl <|
    .nil <|
    .block ?_
  refine AW.loop (fun n T hh => ∃ (i : Nat) , i ≤ 0 ∧ n = 0 - i ∧ T = put (put (put (T0) 9 (V.int .i64 (i : Nat))) 8 (V.int .i64 (0 : Nat))) 7 (eInts []) ∧ hh = h) (0) ?_ ?_
  · skip
    refine Wk.mk (TLe.put (d := 7) (VLe.refl _) (TLe.put (d := 8) (VLe.refl _) (TLe.put (d := 9) (by exact VLe.of_eq (congrArg (V.int .i64) (by first | rfl | omega))) (TLe.zero _)))) (HLe.refl _) ⟨0, Nat.zero_le _, rfl, rfl, rfl⟩
  · skip
    rintro n T h' ⟨i, hi, rfl, rfl, rfl⟩
    refine .seq <|
      .region <|
      .ql rfl rfl rfl <|
      .nil <|
      .seq ?_
    refine AW.cond rfl (fun c0 => ?_) (fun c0 => ?_)
    · have hlt : i < 0 := by have := of_decide_eq_true c0; omega
      omega
    · obtain rfl : i = 0 := by have := of_decide_eq_false c0; omega
      refine AW.exit ?_
      exact retQ.mk' .none (VLe.refl _) (HLe.refl _) ⟨rfl, rfl⟩

end Go.Proofs.YtijhmlkffkedeaaGreatDoor
/- Walks: all hits of any state, what they do, and the end of a fight, beside the document's. -/
namespace Go.Proofs.YtijhmlkffkedeaaGreatDoor
open Go Go.AV Go.Proofs.Tryz
set_option maxRecDepth 100000
set_option maxHeartbeats 1000000
theorem long_24 {s : St} (hf : Few s) {n : Int} (hn : n ≤ 40) (h : longF s n = false) : longF s 40 = false := by
  simp only [longF, Bool.or_eq_false_iff, decide_eq_false_iff_not, List.any_eq_false, List.mem_range] at h ⊢
  exact ⟨by omega, fun x hx e => h.2 x hx (by simp only [decide_eq_true_eq] at e ⊢; omega)⟩
theorem new_w {s : St} (hf : Few s) : EmW (newF s []) := ⟨(new_p hf).inv, fun e => by rw [new_eq] at e ⊢; exact sm_of e⟩
theorem strikeAll_w {m : Em} (h : EmW m) : EmW m.strikeAll := strikeL_w h
theorem endF_w {m : Em} (h : EmW m) : EmW m.endF := endL_w h
theorem new_pend {s : St} : (newF s []).pend = [] := by rw [new_eq]
theorem nStrike_pend {s : St} : (newF s []).strikeAll.pend.length ≤ 1000000 := by
  have h : (newF s []).strikeAll.pend = (newF s []).pend := strikeL_same.pend
  rw [h, new_pend]; decide
theorem nEnd_pend {s : St} : (newF s []).strikeAll.endF.pend.length ≤ 1000000 := by
  have h : (newF s []).strikeAll.endF.pend = (newF s []).strikeAll.pend := endL_same.pend
  rw [h]; exact nStrike_pend

theorem combatStrikes_calls (s : St) (i a : Int) (hf : Few s) (h : Hp) : ACalls prog G 3 [eState s, .int .i64 i, .int .i64 a] h fun r h' => r = .bool true ∧ h' = h := by
  refine ACalls.enter func3 rfl ntmps3 results3 rfl ?_
  refine .seq <|
    .region <|
    .bx rfl rfl <|
    .aB rfl rfl <|
    .nil <|
    .seq <|
    .seq <|
    .region ?_
  refine .u rfl rfl rfl (QOp.call rfl call6 fun h' hl' => by exact alive24_calls h') ?_
  refine .nt rfl rfl <|
    .nil ?_
  refine AW.cond rfl (fun c0 => ?_) (fun c0 => ?_)
  · cases c0
  · skip
    refine AW.skip ?_
    refine .seq <|
      .seq <|
      .region <|
      .lw rfl isAgg29 sizeOf29 rfl rfl ?_
    refine .u rfl rfl rfl (QOp.call rfl call7 fun h' hl' => by exact long_calls s 24 (by decide) h') ?_
    refine .nil ?_
    refine AW.cond rfl (fun c1 => ?_) (fun c1 => ?_)
    · skip
      refine .seq <|
        .region <|
        .aB rfl rfl <|
        .nil ?_
      refine AW.ret ?_
      exact retQ.mk' (.one _) (VLe.refl _) (HLe.refl _) ⟨rfl, rfl⟩
    · have hb := long_hb hf (long_24 hf (by decide) c1)
      have hal : (attackersF s).length ≤ 1000000 := Nat.le_trans (List.length_filter_le _ _) (hb.2 8)
      have hsl := strikes_len (s := s)
      refine AW.skip ?_
      refine .seq ?_
      refine AW.draw [] [] [(0, true), (1, true), (2, true), (3, true), (4, true), (5, true)] mixed (by kernel_rfl) rfl (by kernel_rfl) ?_
      refine .q rfl rfl rfl rfl (q_load_iW rfl isAgg29 sizeOf29 rfl (by rfl)) ?_
      refine .q rfl rfl rfl rfl (QOp.call rfl (by exact call8) fun h' hl' => by exact strikes_calls s hb.1 hb.2 h') ?_
      refine .q rfl rfl rfl rfl (q_load_iW rfl isAgg29 sizeOf29 rfl (by rfl)) ?_
      refine .q rfl rfl rfl rfl (QOp.call rfl (by exact call9) fun h' hl' => by exact rhits_calls s hb.1 hb.2 h') ?_
      refine .q rfl rfl rfl rfl (q_as rfl (rfl : _ = V.sl _ _ _ _)) ?_
      refine .q rfl rfl rfl rfl (q_as rfl (rfl : _ = V.sl _ _ _ _)) ?_
      refine AOrd.nil ?_
      refine .seq <|
        .seq ?_
      refine AW.draw [] [] [(0, true), (1, true), (2, true), (3, true), (4, true), (5, true), (6, true), (7, true), (8, true), (9, true), (10, true), (11, true), (12, true), (13, true), (14, true), (15, true), (16, true), (17, true), (18, true), (19, true), (20, true), (21, true), (22, true), (23, true)] mixed (by kernel_rfl) rfl (by kernel_rfl) ?_
      refine .q rfl rfl rfl rfl (q_mv rfl (rfl : _ = V.sl _ _ _ _)) ?_
      refine .q rfl rfl rfl rfl (q_len rfl underlying32 rfl) ?_
      refine .q rfl rfl rfl rfl (q_mv rfl (rfl : _ = V.sl _ _ _ _)) ?_
      refine .q rfl rfl rfl rfl (q_len rfl underlying34 rfl) ?_
      refine .q rfl rfl rfl rfl (q_ne rfl rfl rfl) ?_
      refine .q rfl rfl rfl rfl (q_mv rfl (rfl : _ = V.bool _)) ?_
      refine AOrd.g rfl rfl (wanted_f rfl rfl) rfl (fun _ => tl0) (fun hc => q_load_iW rfl isAgg29 sizeOf29 rfl (by rfl)) ?_
      refine AOrd.g rfl rfl (wanted_f rfl rfl) rfl (fun hc => tl1 26 (.opt hc)) (fun hc => QOp.call rfl (by exact call11) fun h' hl' => by exact attackers_calls s hb.1 hb.2 h') ?_
      refine AOrd.g rfl rfl (wanted_f rfl rfl) rfl (fun _ => tl0) (fun hc => q_load_iW rfl isAgg29 sizeOf29 rfl (by rfl)) ?_
      refine AOrd.g rfl rfl (wanted_f rfl rfl) rfl (fun hc => tl1 28 (.opt hc)) (fun hc => QOp.call rfl (by exact call12) fun h' hl' => by exact rattackers_calls s hb.1 hb.2 h') ?_
      refine AOrd.g rfl rfl (wanted_f rfl rfl) rfl (fun hc => tl2 29 27 (.opt hc) (.opt hc)) (fun hc => QOp.call rfl (by exact call10) fun h' hl' => by exact ints_calls (attackersF s) (attackersF s) hal h') ?_
      refine AOrd.g rfl rfl (wanted_f rfl rfl) rfl (fun hc => tl1 30 (.opt hc)) (fun hc => q_not rfl rfl) ?_
      refine .q rfl rfl rfl rfl (q_pickg rfl rfl (fun hp => by exact VLe.refl _) (fun hp => by first | exact VLe.opt hp | exact VLe.opt (by rw [hp]; rfl) | exact VLe.opt (by simp_all))) ?_
      refine .q rfl rfl rfl rfl (q_mv rfl (rfl : _ = V.bool _)) ?_
      refine AOrd.g rfl rfl (wanted_f rfl rfl) rfl (fun _ => tl0) (fun hc => q_load_iW rfl isAgg29 sizeOf29 rfl (by rfl)) ?_
      refine AOrd.g rfl rfl (wanted_f rfl rfl) rfl (fun _ => tl0) (fun hc => q_mv rfl (rfl : _ = V.int _ _)) ?_
      refine AOrd.g rfl rfl (wanted_f rfl rfl) rfl (fun _ => tl0) (fun hc => q_mv rfl (rfl : _ = V.int _ _)) ?_
      refine AOrd.g rfl rfl (wanted_f rfl rfl) rfl (fun hc => TLe.put (d := 36) (VLe.opt hc) (TLe.put (d := 35) (VLe.opt hc) (TLe.put (d := 34) (VLe.opt hc) (TLe.refl _)))) (fun hc => QOp.call rfl (by exact call13) fun h' hl' => by exact stops_calls s i a hb.1 hb.2 h') ?_
      refine AOrd.g rfl rfl (wanted_f rfl rfl) rfl (fun _ => tl0) (fun hc => q_load_iW rfl isAgg29 sizeOf29 rfl (by rfl)) ?_
      refine AOrd.g rfl rfl (wanted_f rfl rfl) rfl (fun _ => tl0) (fun hc => q_mv rfl (rfl : _ = V.int _ _)) ?_
      refine AOrd.g rfl rfl (wanted_f rfl rfl) rfl (fun _ => tl0) (fun hc => q_mv rfl (rfl : _ = V.int _ _)) ?_
      refine AOrd.g rfl rfl (wanted_f rfl rfl) rfl (fun hc => TLe.put (d := 40) (VLe.opt hc) (TLe.put (d := 39) (VLe.opt hc) (TLe.put (d := 38) (VLe.opt hc) (TLe.refl _)))) (fun hc => QOp.call rfl (by exact call14) fun h' hl' => by exact rstops_calls s i a hb.1 hb.2 h') ?_
      refine AOrd.g rfl rfl (wanted_f rfl rfl) rfl (fun hc => tl2 41 37 (.opt hc) (.opt hc)) (fun hc => q_neb underlying4 rfl rfl rfl) ?_
      refine .q rfl rfl rfl rfl (q_pickg rfl rfl (fun hp => by exact VLe.refl _) (fun hp => by first | exact VLe.opt hp | exact VLe.opt (by rw [hp]; rfl) | exact VLe.opt (by simp_all))) ?_
      refine AOrd.nil ?_
      refine AW.cond rfl (fun c2 => ?_) (fun c2 => ?_)
      · simp [intsF] at c2
      · skip
        refine AW.skip ?_
        refine .seq <|
          .seq <|
          .region <|
          .mS rfl rfl <|
          .ln rfl underlying32 rfl <|
          .mI rfl rfl <|
          .nil <|
          .block ?_
        refine AW.loop (fun n T hh => ∃ (k : Nat) , k ≤ (strikesF s).length ∧ n = (strikesF s).length - k ∧ T = put (put (put (put (put (put (put (T0) 46 (V.int .i64 (k : Nat))) 45 (V.int .i64 (strikesF s).length)) 8 (eHits (strikesF s))) 7 (eHits (strikesF s))) 3 (V.iptr (cState s))) 2 (V.int .i64 a)) 1 (V.int .i64 i) ∧ hh = h) ((strikesF s).length) ?_ ?_
        · skip
          refine Wk.mk (TLe.put (d := 1) (VLe.refl _) (TLe.put (d := 2) (VLe.refl _) (TLe.put (d := 3) (VLe.refl _) (TLe.put (d := 7) (VLe.refl _) (TLe.put (d := 8) (VLe.refl _) (TLe.put (d := 45) (VLe.refl _) (TLe.put (d := 46) (by exact VLe.of_eq (congrArg (V.int .i64) (by first | rfl | omega))) (TLe.zero _)))))))) (HLe.refl _) ⟨0, Nat.zero_le _, rfl, rfl, rfl⟩
        · skip
          rintro n T h' ⟨k, hk, rfl, rfl, rfl⟩
          refine .seq <|
            .region <|
            .ql rfl rfl rfl <|
            .nil <|
            .seq ?_
          refine AW.cond rfl (fun c3 => ?_) (fun c3 => ?_)
          · have hltk : k < (strikesF s).length := by have := of_decide_eq_true c3; omega
            refine AW.skip ?_
            refine .seq <|
              .block <|
              .seq <|
              .region <|
              .mI rfl rfl <|
              .aI rfl rfl <|
              .nil <|
              .seq ?_
            refine AW.draw [] [] [(0, true), (1, true), (2, true), (3, true), (4, true), (5, true), (6, true), (7, true), (8, true)] mixed (by kernel_rfl) rfl (by kernel_rfl) ?_
            refine .q rfl rfl rfl rfl (q_mv rfl (rfl : _ = V.sl _ _ _ _)) ?_
            refine .q rfl rfl rfl rfl (q_mv rfl (rfl : _ = V.int _ _)) ?_
            refine .q rfl rfl rfl rfl (q_ia_s rfl underlying32 sizeOf40 rfl rfl (by omega) (by omega) (cHits_at hltk)) ?_
            refine .q rfl rfl rfl rfl (q_load_iW rfl isAgg40 sizeOf40 rfl (by rfl)) ?_
            refine .q rfl rfl rfl rfl (q_mv rfl (rfl : _ = V.sl _ _ _ _)) ?_
            refine .q rfl rfl rfl rfl (q_mv rfl (rfl : _ = V.int _ _)) ?_
            refine .q rfl rfl rfl rfl (q_ia_s rfl underlying34 sizeOf41 rfl rfl (by omega) (by omega) (cHits_at hltk)) ?_
            refine .q rfl rfl rfl rfl (q_load_iW rfl isAgg41 sizeOf41 rfl (by rfl)) ?_
            refine .q rfl rfl rfl rfl (q_neI (EqI.struct isAgg40 underlying40 sizeOf40 (by kernel_rfl) isAgg3 underlying3 rfl (fun j hj => match j, hj with | 0, _ => ⟨rfl, rfl, by simp⟩ | 1, _ => ⟨rfl, rfl, by simp⟩ | 2, _ => ⟨rfl, rfl, by simp⟩)) isAgg40 sizeOf40 (by kernel_rfl) rfl (a := hitN ((strikesF s).getD k noHit)) (b := hitN ((strikesF s).getD k noHit)) rfl rfl rfl rfl) ?_
            refine AOrd.nil ?_
            refine AW.cond rfl (fun c4 => ?_) (fun c4 => ?_)
            · simp at c4
            · skip
              refine AW.skip ?_
              refine .region <|
                .ad rfl rfl rfl (by omega) <|
                .mI rfl rfl <|
                .nil ?_
              refine Wk.mk (TLe.put (d := 1) (VLe.refl _) (TLe.put (d := 2) (VLe.refl _) (TLe.put (d := 3) (VLe.refl _) (TLe.put (d := 7) (VLe.refl _) (TLe.put (d := 8) (VLe.refl _) (TLe.put (d := 45) (VLe.refl _) (TLe.put (d := 46) (by exact VLe.of_eq (congrArg (V.int .i64) (by first | rfl | omega))) (TLe.zero _)))))))) (HLe.refl _) ⟨_, ?_, k + 1, ?_, rfl, rfl, rfl⟩
              · omega
              · omega
          · obtain rfl : k = (strikesF s).length := by have := of_decide_eq_false c3; omega
            refine AW.exit ?_
            refine .seq ?_
            refine AW.draw [1, 3] [0, 2] [(0, true), (2, true), (1, false), (3, false), (4, true), (5, true)] mixed (by kernel_rfl) rfl (by kernel_rfl) ?_
            refine .p rfl rfl rfl (fun _ => q_load_iW rfl isAgg29 sizeOf29 rfl (by rfl)) ?_
            refine .p rfl rfl rfl (fun _ => q_load_iW rfl isAgg29 sizeOf29 rfl (by rfl)) ?_
            refine AOrd.s rfl rfl rfl rfl ((AStep.call rfl (by exact call15) (new_nil s hb.1 hb.2 _)).mono ?_)
            rintro x1 h1 ⟨idm, rfl, hem⟩
            refine AOrd.s rfl rfl rfl rfl ((AStep.call rfl (by exact call16) (rnew_nil s hf hb.1 hb.2 _)).mono ?_)
            rintro x2 h2 ⟨idg, rfl, hga⟩
            refine .q rfl rfl rfl rfl (q_as rfl (rfl : _ = V.ptr _ _)) ?_
            refine .q rfl rfl rfl rfl (q_as rfl (rfl : _ = V.ptr _ _)) ?_
            refine AOrd.nil ?_
            refine .seq <|
              .region <|
              .mP rfl rfl ?_
            obtain ⟨h3, hga3, hem3⟩ := em_ga hem hga
            refine AOps.s rfl rfl rfl ((AStep.call rfl (by exact call17) (strikeAll_calls hem3 (new_w hf))).mono ?_)
            rintro x4 h4 ⟨rfl, hem4⟩
            obtain ⟨h5, hem5, hga5⟩ := ga_em hga3 hem4
            refine .nil <|
              .seq <|
              .region <|
              .mP rfl rfl ?_
            refine AOps.s rfl rfl rfl ((AStep.call rfl (by exact call18) (rstrike_calls hga5)).mono ?_)
            rintro x6 h6 ⟨rfl, hga6⟩
            refine .nil <|
              .seq <|
              .seq <|
              .region <|
              .mP rfl rfl <|
              .mP rfl rfl ?_
            obtain ⟨ve, vp, hrm, eb⟩ := id hem5
            obtain ⟨g, hM, hGI, hSm, hpe, ue, up, hrg, eg⟩ := id hga6
            have hbm := hga6.le.box _ _ (by rw [eb]; exact Hp.box_setBox _ _ _)
            have hbg := (congrArg (fun hh => Hp.box hh idg) eg).trans (Hp.box_setBox _ _ _)
            refine .u rfl rfl rfl (QOp.call rfl call19 fun h' hl' => by exact is_calls (hl'.box _ _ hbm) (hl'.box _ _ hbg) hrm.ae hrm.ap hrg.ae hrg.ap hM (strikeAll_w (new_w hf)).1 nStrike_pend) ?_
            refine .nt rfl rfl <|
              .nil ?_
            refine AW.cond rfl (fun c5 => ?_) (fun c5 => ?_)
            · cases c5
            · skip
              refine AW.skip ?_
              refine .seq <|
                .region <|
                .mP rfl rfl ?_
              obtain ⟨h7, hga7, hem7⟩ := em_ga hem5 hga6
              refine AOps.s rfl rfl rfl ((AStep.call rfl (by exact call20) (end_calls hem7 (strikeAll_w (new_w hf)))).mono ?_)
              rintro x8 h8 ⟨rfl, hem8⟩
              obtain ⟨h9, hem9, hga9⟩ := ga_em hga7 hem8
              refine .nil <|
                .seq <|
                .region <|
                .mP rfl rfl ?_
              refine AOps.s rfl rfl rfl ((AStep.call rfl (by exact call21) (rend_calls hga9)).mono ?_)
              rintro x10 h10 ⟨rfl, hga10⟩
              refine .nil <|
                .seq <|
                .region ?_
              refine .u rfl rfl rfl (QOp.call rfl call17 fun h' hl' => by exact strikeNil_calls h') ?_
              refine .nil <|
                .seq <|
                .region ?_
              refine .u rfl rfl rfl (QOp.call rfl call20 fun h' hl' => by exact endNil_calls h') ?_
              refine .nil <|
                .seq <|
                .region <|
                .mP rfl rfl <|
                .mP rfl rfl ?_
              obtain ⟨ve, vp, hrm, eb⟩ := id hem9
              obtain ⟨g, hM, hGI, hSm, hpe, ue, up, hrg, eg⟩ := id hga10
              have hbm := hga10.le.box _ _ (by rw [eb]; exact Hp.box_setBox _ _ _)
              have hbg := (congrArg (fun hh => Hp.box hh idg) eg).trans (Hp.box_setBox _ _ _)
              refine .u rfl rfl rfl (QOp.call rfl call19 fun h' hl' => by exact is_calls (hl'.box _ _ hbm) (hl'.box _ _ hbg) hrm.ae hrm.ap hrg.ae hrg.ap hM (endF_w (strikeAll_w (new_w hf))).1 nEnd_pend) ?_
              refine .aB rfl rfl <|
                .nil ?_
              refine AW.ret ?_
              exact retQ.mk' (.one _) (VLe.refl _) (hga10.le.trans hem9.le) ⟨rfl, rfl⟩

end Go.Proofs.YtijhmlkffkedeaaGreatDoor
/- The statement on CombatStrikes: all hits of any state, what they do, and the end of a fight. -/
namespace Go.Proofs.YtijhmlkffkedeaaGreatDoor.combatStrikes
open Go Go.AV Go.Proofs.Tryz Go.ChangeShapes Go.WideShapes Go.ChangeAt Go.RowKit
set_option maxRecDepth 100000
/-- What the walk gives, for every argument and every world that holds the variables. -/
theorem contract (H : Type) (enc : TypeId × Value → H) (W : World) (base : Nat) (args : Array Value) (ds gs : List (DataW H)) (before : List MemPlace)
    (hval : ∀ (j : Nat) t v, f3.params[j]? = some t → args[j]? = some v → Value.okWide prog W .any base t v)
    (hW : DataW.Whole enc prog f3.params.toList Rows.combatStrikesSpec.vars false W args.toList ds gs before) (hL : laidMetH prog Rows.combatStrikesRow.laid W) :
    Calls prog 3 args W fun e W' => ∃ v, e = .returned v ∧ Rows.combatStrikesSpec.post enc prog f3 false true false false W args v W' := by
  have hW' := hW
  obtain ⟨p, q, hA0, hV, rfl, hfz, hnd⟩ := hW
  have hA : DataW.TrodAll enc prog W 0 (fun _ => true) true f3.params.toList args.toList ds p := hA0
  rw [params3] at hA hval
  obtain ⟨v0, v1, v2, d0, d1, d2, p0, p1, p2, rfl, rfl, rfl, h0, h1, h2⟩ := trodAll_three hA
  obtain ⟨rfl, rfl⟩ := trodVars_none hV
  clear hA0
  have hlt0 : ∀ x ∈ p0, x.block < W.heap.size := fun x hx => by simpa using hW'.lt x (by simp [hx])
  obtain ⟨s0, f0, hr0⟩ := open_state (hval 0 29 v0 rfl rfl) h0
  obtain ⟨n1, rfl, rfl, rfl, hwf1⟩ := open_int underlying3 (hval 1 3 v1 rfl rfl) h1
  obtain ⟨n2, rfl, rfl, rfl, hwf2⟩ := open_int underlying3 (hval 2 3 v2 rfl rfl) h2
  have k := combatStrikes_calls s0 n1 n2 f0 H0
  refine (calls_below (args := #[v0, .int .i64 n1, .int .i64 n2]) k (vars_ok hL) (fun j => match j with | 0 => hr0 | 1 => .int _ _ | 2 => .int _ _ | _ + 3 => .junk _) rfl).mono fun e W' ⟨v, r, E, h', he, ⟨hr', _⟩, hrep, hb⟩ => ?_
  subst hr'
  cases hrep
  subst he
  refine ⟨_, rfl, _, _, _, [], p0 ++ ([] ++ []), [], hW', ?_, ?_, rfl, hb.frame _, fun h => by cases h⟩
  · exact trodAll_mk1 (shut_bool underlying4 true)
  · exact trodAll_mk3 (Below.trod laidOut (by kernel_rfl) (of_decide_eq_true (by kernel_rfl)) h0 hb hlt0) (shut_int underlying3 hwf1) (shut_int underlying3 hwf2)
theorem laid_met (os : Os) : laidMet prog Rows.combatStrikesRow.laid ((laidWorld os).forCall (fun _ _ => 0) ⟨#[], #[state0, .int .i64 0, .int .i64 0], []⟩).memory :=
  laidMet_of_run' 8 (by kernel_rfl) (by kernel_rfl)
theorem reads (os : Os) {H : Type} (enc : TypeId × Value → H) : ∃ places, DataW.whole enc prog ((laidWorld os).forCall (fun _ _ => 0) ⟨#[], #[state0, .int .i64 0, .int .i64 0], []⟩).memory f3.params.toList Rows.combatStrikesSpec.vars false #[state0, .int .i64 0, .int .i64 0].toList 8 = some ([state0D, .lit (.int .i64 0), .lit (.int .i64 0)], [], places) :=
  ⟨[], by kernel_rfl⟩
theorem lifted (os : Os) (started : os.Started) (H : Type) (enc : TypeId × Value → H) (F : Stop.Interp) :
    ReturnsInHanded {} checked os 3 .any ((OpenSpec.ofChange Rows.combatStrikesSpec).preRow enc prog f3 Rows.combatStrikesRow.domain false Rows.combatStrikesRow.laid) (((OpenSpec.ofChange Rows.combatStrikesSpec).at F).post enc prog f3 false true false false) := by
  obtain ⟨places, hx⟩ := reads os enc
  refine returnsInHanded_of_row (C := checked) (s := OpenSpec.ofChange Rows.combatStrikesSpec) own started (by kernel_rfl) func3
    (witness_row_at (enc := enc) (C := checked) false (laidWorld os) #[state0, .int .i64 0, .int .i64 0] rfl (by kernel_rfl) (by kernel_rfl) (by kernel_rfl)
      (OpenSpec.preRow_of_cond 8 hx (by kernel_rfl) (fun k hk => by cases hk) (by kernel_rfl) (laid_met os))) ?_
  intro W base args ds gs before hval hW _ _ _ hL _ _
  exact contract H enc W base args ds gs before hval hW hL
theorem said : Rows.CombatStrikesSaid :=
  OpenClaim.holds_of_cond 3 f3 rfl rfl rfl rfl rfl rfl rfl ⟨rfl, rfl, rfl, rfl, rfl⟩ rfl rfl rfl rfl rfl (by kernel_rfl) func3 (by kernel_rfl)
    (of_decide_eq_true (by kernel_rfl)) (by unfold Func.isWrapper; first | (rw [if_pos (by decide +kernel)]; kernel_rfl) | (rw [if_neg (by decide +kernel)]; exact ⟨rfl, rfl⟩))
    (fun os started H enc _ F => by rw [OpenClaim.pre_eq_preRow]; exact lifted os started H enc F)
theorem plain (f : FuncId) (fn : Func) (hf : Tryz.pinned.checked.prog.funcNamed "mulligan/mulliganlaw24.CombatStrikes" = some f) (hfn : Tryz.pinned.checked.prog.funcs[f]? = some fn) :
    true = Tryz.pinned.checked.prog.looks [] ∧ ∀ (j : Nat) t, fn.params[j]? = some t → Tryz.pinned.checked.prog.wantsStandIn t = false := by
  obtain rfl : f = 3 := Option.some.inj ((show prog.funcNamed "mulligan/mulliganlaw24.CombatStrikes" = some 3 by kernel_rfl).symm.trans hf) |>.symm
  obtain rfl : fn = f3 := (Option.some.inj (func3.symm.trans hfn)).symm
  refine ⟨by kernel_rfl, fun j t ht => ?_⟩
  rw [params3] at ht
  match j, ht with
  | 0, ht => obtain rfl : 29 = t := Option.some.inj ht; exact (show prog.wantsStandIn 29 = false by kernel_rfl)
  | 1, ht => obtain rfl : 3 = t := Option.some.inj ht; exact (show prog.wantsStandIn 3 = false by kernel_rfl)
  | 2, ht => obtain rfl : 3 = t := Option.some.inj ht; exact (show prog.wantsStandIn 3 = false by kernel_rfl)
  | _ + 3, ht => cases ht
/-- The card. -/
theorem card : Rows.CombatStrikesCardSaid :=
  Claim7.holds_tied_plain_at .later [] _ _ _ _ said (fun _ h => by cases h) (by kernel_rfl) (fun _ h => by cases h) combatStrikes_row_tie rfl ⟨rfl, rfl⟩ (by kernel_rfl) rfl plain (by kernel_rfl)
end Go.Proofs.YtijhmlkffkedeaaGreatDoor.combatStrikes
