/- Walks: hits that are done; the end of a fight. -/
import Derived.Test.YtijhmlkffkedeaaGreatDoorCs12
namespace Go.Proofs.YtijhmlkffkedeaaGreatDoor
open Go Go.AV Go.Proofs.Tryz
set_option maxRecDepth 100000
set_option maxHeartbeats 1000000
def isPl (t : Int) : Bool := t == -1 || t == -2
/-- The first part of a hit: to a player, or to an object. -/
def Em.strike1 (m : Em) (s : St) (x : Hit) : Em :=
  if isPl x.t then m.lifeF (-1 - x.t) (-x.n)
  else if 0 < x.t ∧ m.err = 0 then m.setF (x.t - 1) 6 (min (m.now.objs.getD (x.t - 1).toNat noObj 6 + (if hasF s x.f 16 then x.n + 1000 else x.n)) 1073741824)
  else m
def Em.strikeF (m : Em) (s : St) (x : Hit) : Em := if hasF s x.f 32 then (m.strike1 s x).lifeF (s.objs.getD x.f.toNat noObj 2) x.n else m.strike1 s x
/-- What holds of an emitter that sets and gives. -/
def EmW (m : Em) : Prop := EmI m ∧ EmS m
theorem strike1_w {m : Em} {s : St} {x : Hit} (h : EmW m) : EmW (m.strike1 s x) := by
  unfold Em.strike1; split
  · exact ⟨lifeF_inv h.1, lifeF_s h.2⟩
  · split
    · exact ⟨setF_inv h.1, setF_s h.2⟩
    · exact h
theorem strikeF_w {m : Em} {s : St} {x : Hit} (h : EmW m) : EmW (m.strikeF s x) := by
  unfold Em.strikeF; split
  · exact ⟨lifeF_inv (strike1_w h).1, lifeF_s (strike1_w h).2⟩
  · exact strike1_w h
theorem strike1_same {m : Em} {s : St} {x : Hit} : Same m (m.strike1 s x) := by
  unfold Em.strike1; split
  · exact lifeF_same
  · split
    · exact setF_same
    · exact .rfl'
theorem strikeF_same {m : Em} {s : St} {x : Hit} : Same m (m.strikeF s x) := by
  unfold Em.strikeF; split
  · exact strike1_same.trans lifeF_same
  · exact strike1_same
/-- What holds of a hit. -/
structure HitOk (s : St) (x : Hit) : Prop where
  t : isPl x.t = true ∨ (1 ≤ x.t ∧ x.t ≤ s.objs.length)
  n : 0 ≤ x.n ∧ x.n ≤ 1000000000000
theorem has_in {s : St} {i n : Int} (h : hasF s i n = true) : 0 ≤ i ∧ i < s.objs.length := by
  simp only [hasF, Bool.and_eq_true, beq_iff_eq] at h
  exact creature_in (of_ok h.1.1).2.1

theorem tpl_eq {n : Int} : V.tup [.int .i64 (if isPl n then -1 - n else 0), .bool (isPl n)] = .tup (if n = -1 ∨ n = -2 then [.int .i64 (-1 - n), .bool true] else [.int .i64 0, .bool false]) := by
  by_cases h : n = -1 ∨ n = -2
  · have e : isPl n = true := by simpa [isPl] using h
    rw [if_pos h, e, if_pos rfl]
  · have e : isPl n = false := by simp [isPl]; omega
    rw [if_neg h, e, if_neg (by decide)]
theorem tob_eq {n : Int} : V.tup [.int .i64 (if n ≤ 0 then 0 else n - 1), .bool (!decide (n ≤ 0))] = .tup (if n ≤ 0 then [.int .i64 0, .bool false] else [.int .i64 (n - 1), .bool true]) := by
  by_cases h : n ≤ 0
  · simp [h]
  · simp [h]

theorem strike_calls (s : St) (x : Hit) (hx : HitOk s x) (hb : s.objs.length ≤ 1000000) (hl : ∀ z, (s.lists z).length ≤ 1000000) {h0 : Hp} {id : Nat} {m : Em} {h : Hp} (he : EmAt h0 id m h) (hP : EmW m) (hn : m.err = 0 → m.now.objs.length = s.objs.length) : ACalls prog G 48 [.ptr id 0, eState s, .agg (cHit x)] h fun r h' => r = .tup [] ∧ EmAt h0 id (m.strikeF s x) h' := by
  obtain ⟨hn1, hn2⟩ := hx.n
  have htb : -9223372036854775807 ≤ x.t ∧ x.t ≤ 9223372036854775807 := by
    have := hx.t; simp [isPl] at this; omega
  have hW1 := strike1_w (s := s) (x := x) hP
  refine ACalls.enter func48 rfl ntmps48 results48 rfl ?_
  refine .seq <|
    .region <|
    .bx rfl rfl <|
    .bx rfl rfl <|
    .nil <|
    .seq <|
    .region <|
    .fi rfl f40_2 rfl <|
    .li rfl isAgg3 rfl rfl <|
    .aI rfl rfl <|
    .nil ?_
  refine AW.cut (fun T h1 => T = put (put (put (T0) 0 (V.ptr id 0)) 4 (V.iptr (cState s))) 5 (V.iptr (cHit x)) ∧ EmAt h0 id (m.strike1 s x) h1) ?_ ?_
  · skip
    refine .seq <|
      .region <|
      .fi rfl f40_1 rfl <|
      .li rfl isAgg3 rfl rfl ?_
    refine .u rfl rfl rfl (QOp.call (x := .tup [.int .i64 (if isPl x.t then -1 - x.t else 0), .bool (isPl x.t)]) rfl (by exact call84) fun h' hl' => by rw [tpl_eq]; exact tplayer_calls x.t h') ?_
    refine .u rfl rfl rfl (q_mv rfl (rfl : _ = V.tup _)) ?_
    refine .u rfl rfl rfl (q_extract rfl rfl rfl) ?_
    refine .u rfl rfl rfl (q_extract rfl rfl rfl) ?_
    refine .aI rfl rfl <|
      .aB rfl rfl <|
      .nil <|
      .seq <|
      .region <|
      .mB rfl rfl <|
      .nil ?_
    refine AW.cond rfl (fun c0 => ?_) (fun c0 => ?_)
    · skip
      refine .region <|
        .mP rfl rfl <|
        .mI rfl rfl <|
        .mI rfl rfl ?_
      refine .u rfl rfl rfl (q_neg' rfl rfl (by omega)) ?_
      have hpl : isPl x.t = true := c0
      refine AOps.wkn (T' := put (put _ 21 (V.int .i64 (-1 - x.t))) 23 (V.int .i64 (-x.n))) (TLe.put (d := 23) (VLe.refl _) (TLe.put (d := 21) (VLe.of_eq (congrArg (V.int .i64) (if_pos hpl))) (TLe.refl _))) (HLe.refl _) ?_
      refine AOps.s rfl rfl rfl ((AStep.call rfl (by exact call85) (life_calls (-1 - x.t) (-x.n) he hP.1 hP.2)).mono ?_)
      rintro x3 h3 ⟨rfl, he3⟩
      refine .nil ?_
      first | exact Wk.mk (TLe.put (d := 5) (VLe.refl _) (TLe.put (d := 4) (VLe.refl _) (TLe.put (d := 0) (VLe.refl _) (TLe.zero _)))) (HLe.refl _) ⟨rfl, by rw [Em.strike1, if_pos hpl]; exact he3⟩ | exact Wk.mk (TLe.put (d := 5) (VLe.refl _) (TLe.put (d := 4) (VLe.refl _) (TLe.put (d := 0) (VLe.refl _) (TLe.zero _)))) (HLe.refl _) ⟨rfl, by rw [Em.strike1, if_neg (by rw [hpl]; decide), if_pos ⟨hpos, hz⟩]; exact he3⟩ | exact Wk.mk (TLe.put (d := 5) (VLe.refl _) (TLe.put (d := 4) (VLe.refl _) (TLe.put (d := 0) (VLe.refl _) (TLe.zero _)))) (HLe.refl _) ⟨rfl, by rw [Em.strike1, if_neg (by rw [hpl]; decide), if_neg hno]; exact he⟩
    · have hpl : isPl x.t = false := c0
      obtain ⟨ve, vp, hbx⟩ := EmI.box he
      refine .seq <|
        .region <|
        .fi rfl f40_1 rfl <|
        .li rfl isAgg3 rfl rfl ?_
      refine .u rfl rfl rfl (QOp.call (x := .tup [.int .i64 (if x.t ≤ 0 then 0 else x.t - 1), .bool (!decide (x.t ≤ 0))]) rfl (by exact call86) fun h' hl' => by rw [tob_eq]; exact tobject_calls x.t htb h') ?_
      refine .u rfl rfl rfl (q_mv rfl (rfl : _ = V.tup _)) ?_
      refine .u rfl rfl rfl (q_extract rfl rfl rfl) ?_
      refine .u rfl rfl rfl (q_extract rfl rfl rfl) ?_
      refine .aI rfl rfl <|
        .aB rfl rfl <|
        .nil <|
        .seq <|
        .region <|
        .mB rfl rfl <|
        .mB rfl rfl ?_
      refine .gt rfl rfl rfl (fun _ => tl0) (fun hc => q_mv rfl (rfl : _ = V.ptr _ _)) ?_
      refine .gt rfl rfl rfl (fun hc => tl1 33 (.opt hc)) (fun hc => QOp.call rfl (by exact call29) fun h' hl' => by exact err_calls (hl'.box _ _ hbx)) ?_
      refine .gt rfl rfl rfl (fun hc => tl1 34 (.opt hc)) (fun hc => q_eqerr underlying54 rfl rfl) ?_
      refine .pt rfl rfl rfl rfl <|
        .nil ?_
      refine AW.cond rfl (fun c1 => ?_) (fun c1 => ?_)
      · have hob := and_bits (show (bif !decide (x.t ≤ 0) then m.err == 0 else false) = true from c1)
        have hpos : 0 < x.t := by simpa using hob.1
        have hz : m.err = 0 := by simpa using hob.2
        have hi : 0 ≤ x.t - 1 ∧ x.t - 1 < m.now.objs.length := by have h1 := hn hz; have h2 := hx.t; rw [hpl] at h2; simp at h2; omega
        have h6 := (hP.2 hz).o (x.t - 1).toNat 6 (by decide)
        unfold sml at h6
        refine AW.cut (fun T h1 => T = put (put (put (put (put (T0) 0 (V.ptr id 0)) 4 (V.iptr (cState s))) 5 (V.iptr (cHit x))) 6 (V.int .i64 (if hasF s x.f 16 then x.n + 1000 else x.n))) 9 (V.int .i64 (x.t - 1)) ∧ h = h1) ?_ ?_
        · skip
          refine .seq <|
            .region <|
            .lw rfl isAgg29 sizeOf29 rfl rfl <|
            .fi rfl f40_0 rfl <|
            .li rfl isAgg3 rfl rfl ?_
          refine .u rfl rfl rfl (QOp.call rfl call31 fun h' hl' => by exact has'_calls _ _ _ hb hl h') ?_
          refine .nil ?_
          refine AW.cond rfl (fun c2 => ?_) (fun c2 => ?_)
          · skip
            refine .region <|
              .mI rfl rfl <|
              .ad rfl rfl rfl (by omega) <|
              .aI rfl rfl <|
              .nil ?_
            exact Wk.mk (TLe.put (d := 9) (VLe.of_eq (congrArg (V.int .i64) (if_neg (by omega)))) (TLe.put (d := 6) (VLe.of_eq (congrArg (V.int .i64) (by first | (rw [if_pos c2]; done) | rw [if_neg (by rw [c2]; decide)]))) (TLe.put (d := 5) (VLe.refl _) (TLe.put (d := 4) (VLe.refl _) (TLe.put (d := 0) (VLe.refl _) (TLe.zero _)))))) (HLe.refl _) ⟨rfl, rfl⟩
          · skip
            refine AW.skip ?_
            exact Wk.mk (TLe.put (d := 9) (VLe.of_eq (congrArg (V.int .i64) (if_neg (by omega)))) (TLe.put (d := 6) (VLe.of_eq (congrArg (V.int .i64) (by first | (rw [if_pos c2]; done) | rw [if_neg (by rw [c2]; decide)]))) (TLe.put (d := 5) (VLe.refl _) (TLe.put (d := 4) (VLe.refl _) (TLe.put (d := 0) (VLe.refl _) (TLe.zero _)))))) (HLe.refl _) ⟨rfl, rfl⟩
        · rintro T h1 ⟨rfl, rfl⟩
          have hnn : 0 ≤ (if hasF s x.f 16 then x.n + 1000 else x.n) ∧ (if hasF s x.f 16 then x.n + 1000 else x.n) ≤ 1000000001000 := by split <;> omega
          refine .region <|
            .mP rfl rfl <|
            .mI rfl rfl <|
            .mP rfl rfl ?_
          refine .u rfl rfl rfl (QOp.call (x := eState m.now) rfl (by exact call30) fun h' hl' => by rw [← show m.state = m.now by unfold Em.state; rw [if_pos hz]]; exact state_calls (hl'.box _ _ hbx) hP.1.st) ?_
          refine .u rfl rfl rfl (q_f1 rfl underlying29 rfl (by exact isAgg22) rfl rfl) ?_
          refine .mI rfl rfl ?_
          refine .u rfl rfl rfl (q_ia_s rfl underlying22 sizeOf58 rfl rfl hi.1 hi.2 (cObjs_elem' hi.1 hi.2)) ?_
          refine .u rfl rfl rfl (q_ia_ai rfl underlying58 sizeOf3 rfl rfl (by decide) (by decide) rfl) ?_
          refine .li rfl isAgg3 rfl rfl <|
            .mI rfl rfl <|
            .ad rfl rfl rfl (by omega) ?_
          refine .u rfl rfl rfl (q_min rfl rfl rfl) ?_
          refine AOps.s rfl rfl rfl ((AStep.call rfl (by exact call56) (setF_calls (x.t - 1) 6 _ he hP.1)).mono ?_)
          rintro x3 h3 ⟨rfl, he3⟩
          refine .nil ?_
          first | exact Wk.mk (TLe.put (d := 5) (VLe.refl _) (TLe.put (d := 4) (VLe.refl _) (TLe.put (d := 0) (VLe.refl _) (TLe.zero _)))) (HLe.refl _) ⟨rfl, by rw [Em.strike1, if_pos hpl]; exact he3⟩ | exact Wk.mk (TLe.put (d := 5) (VLe.refl _) (TLe.put (d := 4) (VLe.refl _) (TLe.put (d := 0) (VLe.refl _) (TLe.zero _)))) (HLe.refl _) ⟨rfl, by rw [Em.strike1, if_neg (by rw [hpl]; decide), if_pos ⟨hpos, hz⟩]; exact he3⟩ | exact Wk.mk (TLe.put (d := 5) (VLe.refl _) (TLe.put (d := 4) (VLe.refl _) (TLe.put (d := 0) (VLe.refl _) (TLe.zero _)))) (HLe.refl _) ⟨rfl, by rw [Em.strike1, if_neg (by rw [hpl]; decide), if_neg hno]; exact he⟩
      · have hno : ¬ (0 < x.t ∧ m.err = 0) := fun ⟨a, b⟩ => by simp [a, b] at c1; omega
        refine AW.skip ?_
        first | exact Wk.mk (TLe.put (d := 5) (VLe.refl _) (TLe.put (d := 4) (VLe.refl _) (TLe.put (d := 0) (VLe.refl _) (TLe.zero _)))) (HLe.refl _) ⟨rfl, by rw [Em.strike1, if_pos hpl]; exact he3⟩ | exact Wk.mk (TLe.put (d := 5) (VLe.refl _) (TLe.put (d := 4) (VLe.refl _) (TLe.put (d := 0) (VLe.refl _) (TLe.zero _)))) (HLe.refl _) ⟨rfl, by rw [Em.strike1, if_neg (by rw [hpl]; decide), if_pos ⟨hpos, hz⟩]; exact he3⟩ | exact Wk.mk (TLe.put (d := 5) (VLe.refl _) (TLe.put (d := 4) (VLe.refl _) (TLe.put (d := 0) (VLe.refl _) (TLe.zero _)))) (HLe.refl _) ⟨rfl, by rw [Em.strike1, if_neg (by rw [hpl]; decide), if_neg hno]; exact he⟩
  · rintro T h1 ⟨rfl, he7⟩
    refine .seq <|
      .region <|
      .lw rfl isAgg29 sizeOf29 rfl rfl <|
      .fi rfl f40_0 rfl <|
      .li rfl isAgg3 rfl rfl ?_
    refine .u rfl rfl rfl (QOp.call rfl call31 fun h' hl' => by exact has'_calls _ _ _ hb hl h') ?_
    refine .nil ?_
    refine AW.cond rfl (fun c3 => ?_) (fun c3 => ?_)
    · skip
      refine AW.draw [7] [1, 2, 3, 5] [(0, true), (1, true), (2, true), (3, true), (4, true), (5, true), (6, true), (7, false)] mixed (by kernel_rfl) rfl (by kernel_rfl) ?_
      refine .q rfl rfl rfl rfl (q_mv rfl (rfl : _ = V.ptr _ _)) ?_
      refine .p rfl rfl rfl (fun _ => q_load_iW rfl isAgg29 sizeOf29 rfl (by rfl)) ?_
      refine .p rfl rfl rfl (fun _ => q_fa_i rfl underlying40 rfl (by exact sizeOf3) (by decide) rfl (rfl : _ = List.drop 0 _)) ?_
      refine .p rfl rfl rfl (fun _ => q_load_i1 rfl isAgg3 rfl rfl) ?_
      refine .q rfl rfl rfl rfl (QOp.call rfl (by exact call41) fun h' hl' => by exact field_calls s x.f 2 (has_in c3) (by decide) h') ?_
      refine .p rfl rfl rfl (fun _ => q_fa_i rfl underlying40 rfl (by exact sizeOf3) (by decide) rfl (rfl : _ = List.drop 2 _)) ?_
      refine .q rfl rfl rfl rfl (q_load_i1 rfl isAgg3 rfl rfl) ?_
      refine AOrd.s rfl rfl rfl rfl ((AStep.call rfl (by exact call85) (life_calls (s.objs.getD x.f.toNat noObj 2) x.n he7 hW1.1 hW1.2)).mono ?_)
      rintro x9 h9 ⟨rfl, he9⟩
      refine AOrd.nil ?_
      exact retQ.mk .none ⟨rfl, by rw [Em.strikeF, if_pos c3]; exact he9⟩
    · skip
      refine AW.skip ?_
      exact retQ.mk .none ⟨rfl, by rw [Em.strikeF, if_neg (by rw [c3]; decide)]; exact he7⟩

def Em.strikeL (m : Em) (s : St) (l : List Hit) : Em := l.foldl (fun m x => m.strikeF s x) m
/-- All hits are done. -/
def Em.strikeAll (m : Em) : Em := m.strikeL m.state (strikesF m.state)
theorem strikeL_w {m : Em} {s : St} {l : List Hit} (h : EmW m) : EmW (m.strikeL s l) := by
  induction l generalizing m with
  | nil => exact h
  | cons x l ih => exact ih (m := m.strikeF s x) (strikeF_w h)
theorem strikeL_same {m : Em} {s : St} {l : List Hit} : Same m (m.strikeL s l) := by
  induction l generalizing m with
  | nil => exact .rfl'
  | cons x l ih => exact strikeF_same.trans (ih (m := m.strikeF s x))
theorem strikeL_next {m : Em} {s : St} {l : List Hit} {k : Nat} (h : k < l.length) : m.strikeL s (l.take (k + 1)) = (m.strikeL s (l.take k)).strikeF s (l.getD k noHit) := by
  rw [Em.strikeL, Em.strikeL, List.take_add_one, List.getElem?_eq_getElem h, getD_of' h, List.foldl_append]; rfl
theorem cHits_at {l : List Hit} {i : Nat} (h : i < l.length) : ((cHits l).drop ((i : Int).toNat * 3)).take 3 = cHit (l.getD i noHit) := by
  have := cHits_elem (slack := []) h
  rwa [List.append_nil] at this
theorem hitUp_ok {s : St} {a : Int} {bl : List Int} (hb0 : s.objs.length ≤ 1000000) (hl8 : (s.lists 8).length ≤ 1000000) (hbl : ∀ b ∈ bl, 0 ≤ b ∧ b < s.objs.length) : ∀ k, k ≤ bl.length → ∀ x ∈ (hitUp s a bl k).1, (1 ≤ x.t ∧ x.t ≤ s.objs.length) ∧ 0 ≤ x.n ∧ x.n ≤ 1000000000000
  | 0, _ => by simp [hitUp]
  | k + 1, hk => by
    intro x hx
    rw [hitUp] at hx
    simp only [List.mem_append, List.mem_singleton] at hx
    rcases hx with hx | rfl
    · exact hitUp_ok hb0 hl8 hbl k (by omega) x hx
    · have hb := hbl _ (getD_mem (l := bl) (k := k) (by omega))
      have h1 := hitUp_bd (a := a) (bl := bl) hl8 k
      have h2 := takes_bd (s := s) (a := a) (bl := bl) (k := k) h1.1
      have e : atF (bl.getD k 0) = bl.getD k 0 + 1 := by rw [atF, if_neg]; omega
      simp only [e]; omega
theorem hits_ok {s : St} (hb0 : s.objs.length ≤ 1000000) (hc : checkF s = 0) {a : Int} (ha : a ∈ s.lists 8) : ∀ x ∈ hitsF s a, HitOk s x := by
  obtain ⟨p1, p2, p3, p4⟩ := right_parts hc
  have hl8 : (s.lists 8).length ≤ 1000000 := by have := right_l8 hc; omega
  have hg := right_active hc
  have hid : ∀ b ∈ s.lists 8, 0 ≤ b ∧ b < s.objs.length := fun b hb => ⟨(right_ids p3 (by decide) b hb).1, (right_ids p3 (by decide) b hb).2.1⟩
  have hbl : ∀ b ∈ blockersF s a, 0 ≤ b ∧ b < s.objs.length := fun b hb => hid b (List.mem_filter.1 hb).1
  have hfo : foeAt s = s.game 1 - 2 := by rw [foeAt, foeF, if_pos (by omega)]; omega
  have hfp : isPl (foeAt s) = true := by rw [hfo]; simp [isPl]; omega
  intro x hx
  unfold hitsF at hx
  split at hx
  · simp only [List.mem_singleton] at hx; subst hx
    exact ⟨.inl hfp, power_bd hl8⟩
  · simp only [List.mem_append, hitFront] at hx
    rcases hx with (hx | hx) | hx
    · have := hitUp_ok hb0 hl8 hbl _ (Nat.le_refl _) x hx
      exact ⟨.inr this.1, this.2⟩
    · split at hx
      · simp only [List.mem_singleton] at hx; subst hx
        exact ⟨.inl hfp, hitUp_bd hl8 _⟩
      · simp at hx
    · simp only [hitBack, List.mem_map, List.mem_range] at hx
      obtain ⟨j, hj, rfl⟩ := hx
      have e : atF a = a + 1 := by have := hid a ha; rw [atF, if_neg]; omega
      have := hid a ha
      exact ⟨.inr (by simp only [e]; omega), power_bd hl8⟩
theorem strikes_ok {s : St} (hb0 : s.objs.length ≤ 1000000) : ∀ x ∈ strikesF s, HitOk s x := by
  intro x hx
  unfold strikesF at hx
  split at hx
  · simp at hx
  · rename_i hc
    have hc : checkF s = 0 := by simpa using hc
    have := (List.mem_filter.1 hx).1
    simp only [allHitsF, List.mem_flatMap] at this
    obtain ⟨a, ha, hxa⟩ := this
    exact hits_ok hb0 hc (List.mem_filter.1 ha).1 x hxa
theorem strikes_len {s : St} : (strikesF s).length ≤ 1000000 := by
  unfold strikesF; split
  · simp
  · rename_i hc
    have hc : checkF s = 0 := by simpa using hc
    have h8 := right_l8 hc
    refine Nat.le_trans (List.length_filter_le _ _) ?_
    rw [← allHit_all]
    have := allHit_len (s := s) (attackersF s).length
    have hal : (attackersF s).length ≤ (s.lists 8).length := List.length_filter_le _ _
    have hkm : (attackersF s).length * (2 * (s.lists 8).length + 1) ≤ 400 * 801 := Nat.mul_le_mul (by omega) (by omega)
    omega
/-- The fight ends. -/
def Em.endL (m : Em) (l : List Int) : Em := l.foldl (fun m i => (m.setF i 11 0).setF i 12 0) m
def Em.endF (m : Em) : Em := m.endL (m.state.lists 8)
theorem endL_w {m : Em} {l : List Int} (h : EmW m) : EmW (m.endL l) := by
  induction l generalizing m with
  | nil => exact h
  | cons x l ih => exact ih (m := (m.setF x 11 0).setF x 12 0) ⟨setF_inv (setF_inv h.1), setF_s (setF_s h.2)⟩
theorem endL_same {m : Em} {l : List Int} : Same m (m.endL l) := by
  induction l generalizing m with
  | nil => exact .rfl'
  | cons x l ih => exact setF_same.trans (setF_same.trans (ih (m := (m.setF x 11 0).setF x 12 0)))
theorem endL_next {m : Em} {l : List Int} {k : Nat} (h : k < l.length) : m.endL (l.take (k + 1)) = ((m.endL (l.take k)).setF (l.getD k 0) 11 0).setF (l.getD k 0) 12 0 := by
  rw [Em.endL, Em.endL, List.take_add_one, List.getElem?_eq_getElem h, getD_of h, List.foldl_append]; rfl
theorem strikes_no : strikesF noSt = [] := by
  unfold strikesF; split
  · rfl
  · have : attackersF noSt = [] := rfl
    rw [allHitsF, this]; rfl

theorem hit_mem {l : List Hit} {i : Nat} (h : i < l.length) : l.getD i noHit ∈ l := by rw [getD_of' h]; exact List.getElem_mem h

theorem strikeAll_calls {h0 : Hp} {id : Nat} {m : Em} {h : Hp} (he : EmAt h0 id m h) (hP : EmW m) : ACalls prog G 17 [.ptr id 0] h fun r h' => r = .tup [] ∧ EmAt h0 id m.strikeAll h' := by
  obtain ⟨ve, vp, hbx⟩ := EmI.box he
  have hst := hP.1.st2
  have hsl := strikes_len (s := m.state)
  refine ACalls.enter func17 rfl ntmps17 results17 rfl ?_
  refine .seq <|
    .region <|
    .mP rfl rfl ?_
  refine .u rfl rfl rfl (QOp.call rfl call30 fun h' hl' => by exact state_calls (hl'.box _ _ hbx) hP.1.st) ?_
  refine AOps.s rfl rfl rfl (a_alloc rfl zeroValue29 rfl (fun id2 hid2 => ?_))
  refine .sw sizeOf29 rfl rfl rfl rfl ?_
  refine AOps.done 2 rfl hid2 ?_
  refine .nil <|
    .seq <|
    .region <|
    .lw rfl isAgg29 sizeOf29 rfl rfl ?_
  refine .u rfl rfl rfl (QOp.call rfl call8 fun h' hl' => by exact strikes_calls m.state hst.1 hst.2 h') ?_
  refine .ln rfl underlying32 rfl <|
    .mI rfl rfl <|
    .nil <|
    .block ?_
  refine AW.loop (fun n T hh => ∃ (k : Nat) , k ≤ (strikesF m.state).length ∧ n = (strikesF m.state).length - k ∧ T = put (put (put (put (put (T0) 10 (V.int .i64 (k : Nat))) 9 (V.int .i64 (strikesF m.state).length)) 8 (eHits (strikesF m.state))) 2 (V.iptr (cState m.state))) 0 (V.ptr id 0) ∧ EmAt h0 id (m.strikeL m.state ((strikesF m.state).take k)) hh) ((strikesF m.state).length) ?_ ?_
  · skip
    refine Wk.mk (TLe.put (d := 0) (VLe.refl _) (TLe.put (d := 2) (VLe.refl _) (TLe.put (d := 8) (VLe.refl _) (TLe.put (d := 9) (VLe.refl _) (TLe.put (d := 10) (by exact VLe.of_eq (congrArg (V.int .i64) (by first | rfl | omega))) (TLe.zero _)))))) (HLe.refl _) ⟨0, Nat.zero_le _, rfl, rfl, by rw [List.take_zero]; exact he⟩
  · skip
    rintro n T h' ⟨k, hk, rfl, rfl, hem⟩
    refine .seq <|
      .region <|
      .ql rfl rfl rfl <|
      .nil <|
      .seq ?_
    refine AW.cond rfl (fun c0 => ?_) (fun c0 => ?_)
    · have hltk : k < (strikesF m.state).length := by have := of_decide_eq_true c0; omega
      have hln : (m.strikeL m.state ((strikesF m.state).take k)).err = 0 → (m.strikeL m.state ((strikesF m.state).take k)).now.objs.length = m.state.objs.length := fun e => by
        have hs := strikeL_same (m := m) (s := m.state) (l := (strikesF m.state).take k)
        have h0e := hs.err e
        rw [hs.len, show m.state = m.now by unfold Em.state; rw [if_pos h0e]]
      refine AW.skip ?_
      refine .seq <|
        .block <|
        .seq <|
        .region ?_
      refine .u rfl rfl rfl (q_ia_s rfl underlying32 sizeOf40 rfl rfl (by omega) (by omega) (cHits_at hltk)) ?_
      refine .lw rfl isAgg40 sizeOf40 rfl rfl ?_
      refine AOps.s rfl rfl rfl (a_alloc rfl zeroValue40 rfl (fun id4 hid4 => ?_))
      refine .sw sizeOf40 rfl rfl rfl rfl ?_
      refine AOps.done 4 rfl hid4 ?_
      refine .nil <|
        .region <|
        .mP rfl rfl <|
        .lw rfl isAgg29 sizeOf29 rfl rfl <|
        .lw rfl isAgg40 sizeOf40 rfl rfl ?_
      refine AOps.s rfl rfl rfl ((AStep.call rfl (by exact call48) (strike_calls m.state ((strikesF m.state).getD k noHit) (strikes_ok hst.1 _ (hit_mem hltk)) hst.1 hst.2 hem (strikeL_w hP) hln)).mono ?_)
      rintro x9 h9 ⟨rfl, he9⟩
      refine .nil <|
        .region <|
        .ad rfl rfl rfl (by omega) <|
        .mI rfl rfl <|
        .nil ?_
      refine Wk.mk (TLe.put (d := 0) (VLe.refl _) (TLe.put (d := 2) (VLe.refl _) (TLe.put (d := 8) (VLe.refl _) (TLe.put (d := 9) (VLe.refl _) (TLe.put (d := 10) (by exact VLe.of_eq (congrArg (V.int .i64) (by first | rfl | omega))) (TLe.zero _)))))) (HLe.refl _) ⟨_, ?_, k + 1, ?_, rfl, rfl, by rw [strikeL_next hltk]; exact he9⟩
      · omega
      · omega
    · obtain rfl : k = (strikesF m.state).length := by have := of_decide_eq_false c0; omega
      refine AW.exit ?_
      rw [List.take_length] at hem
      exact retQ.mk .none ⟨rfl, hem⟩

theorem end_calls {h0 : Hp} {id : Nat} {m : Em} {h : Hp} (he : EmAt h0 id m h) (hP : EmW m) : ACalls prog G 20 [.ptr id 0] h fun r h' => r = .tup [] ∧ EmAt h0 id m.endF h' := by
  obtain ⟨ve, vp, hbx⟩ := EmI.box he
  have hst := hP.1.st2
  have hl8 := hst.2 8
  refine ACalls.enter func20 rfl ntmps20 results20 rfl ?_
  refine .seq <|
    .region <|
    .mP rfl rfl ?_
  refine .u rfl rfl rfl (QOp.call rfl call30 fun h' hl' => by exact state_calls (hl'.box _ _ hbx) hP.1.st) ?_
  refine .u rfl rfl rfl (q_fN rfl underlying29 rfl (by exact isAgg24) (by exact sizeOf24) rfl rfl) ?_
  refine .u rfl rfl rfl (q_ix1 rfl underlying24 sizeOf23 isAgg23 rfl rfl (by decide) (by decide) rfl) ?_
  refine .ln rfl underlying23 rfl <|
    .mI rfl rfl <|
    .nil <|
    .block ?_
  refine AW.loop (fun n T hh => ∃ (k : Nat) , k ≤ (m.state.lists 8).length ∧ n = (m.state.lists 8).length - k ∧ T = put (put (put (put (T0) 9 (V.int .i64 (k : Nat))) 8 (V.int .i64 (m.state.lists 8).length)) 7 (eInts (m.state.lists 8))) 0 (V.ptr id 0) ∧ EmAt h0 id (m.endL ((m.state.lists 8).take k)) hh) ((m.state.lists 8).length) ?_ ?_
  · skip
    refine Wk.mk (TLe.put (d := 0) (VLe.refl _) (TLe.put (d := 7) (VLe.refl _) (TLe.put (d := 8) (VLe.refl _) (TLe.put (d := 9) (by exact VLe.of_eq (congrArg (V.int .i64) (by first | rfl | omega))) (TLe.zero _))))) (HLe.refl _) ⟨0, Nat.zero_le _, rfl, rfl, by rw [List.take_zero]; exact he⟩
  · skip
    rintro n T h' ⟨k, hk, rfl, rfl, hem⟩
    refine .seq <|
      .region <|
      .ql rfl rfl rfl <|
      .nil <|
      .seq ?_
    refine AW.cond rfl (fun c0 => ?_) (fun c0 => ?_)
    · have hltk : k < (m.state.lists 8).length := by have := of_decide_eq_true c0; omega
      have hW : EmW (m.endL ((m.state.lists 8).take k)) := endL_w hP
      refine AW.skip ?_
      refine .seq <|
        .block <|
        .seq <|
        .region ?_
      refine .u rfl rfl rfl (q_ia_s rfl underlying23 sizeOf3 rfl rfl (by omega) (by omega) (cInts_at hltk)) ?_
      refine .li rfl isAgg3 rfl rfl <|
        .aI rfl rfl <|
        .nil <|
        .seq <|
        .region <|
        .mP rfl rfl <|
        .mI rfl rfl ?_
      refine AOps.s rfl rfl rfl ((AStep.call rfl (by exact call56) (setF_calls ((m.state.lists 8).getD k 0) 11 0 hem hW.1)).mono ?_)
      rintro x8 h8 ⟨rfl, he8⟩
      refine .nil <|
        .region <|
        .mP rfl rfl <|
        .mI rfl rfl ?_
      refine AOps.s rfl rfl rfl ((AStep.call rfl (by exact call56) (setF_calls ((m.state.lists 8).getD k 0) 12 0 he8 (setF_inv hW.1))).mono ?_)
      rintro x9 h9 ⟨rfl, he9⟩
      refine .nil <|
        .region <|
        .ad rfl rfl rfl (by omega) <|
        .mI rfl rfl <|
        .nil ?_
      refine Wk.mk (TLe.put (d := 0) (VLe.refl _) (TLe.put (d := 7) (VLe.refl _) (TLe.put (d := 8) (VLe.refl _) (TLe.put (d := 9) (by exact VLe.of_eq (congrArg (V.int .i64) (by first | rfl | omega))) (TLe.zero _))))) (HLe.refl _) ⟨_, ?_, k + 1, ?_, rfl, rfl, by rw [endL_next hltk]; exact he9⟩
      · omega
      · omega
    · obtain rfl : k = (m.state.lists 8).length := by have := of_decide_eq_false c0; omega
      refine AW.exit ?_
      rw [List.take_length] at hem
      exact retQ.mk .none ⟨rfl, hem⟩

end Go.Proofs.YtijhmlkffkedeaaGreatDoor
/- Walks: who fights, by the document. -/
namespace Go.Proofs.YtijhmlkffkedeaaGreatDoor
open Go Go.AV Go.Proofs.Tryz
set_option maxRecDepth 100000
set_option maxHeartbeats 1000000
theorem isF_iff {s : St} {i : Int} : isF s i = true ↔ checkF s = 0 ∧ creatureF s i = true := by
  unfold isF
  by_cases h : checkF s = 0 <;> simp [h]
theorem of_right {s : St} {i : Int} (h : isF s i = true) : ofF s i = (evalF s i, 0) := by
  obtain ⟨hc, hcr⟩ := isF_iff.1 h
  rw [ofF, if_neg (by simpa using hc), if_neg (by rw [hcr]; decide)]
theorem right_z {s : St} (hc : checkF s = 0) : ∀ id ∈ s.lists 8, 0 ≤ id ∧ id < s.objs.length := by
  obtain ⟨p1, p2, p3, p4⟩ := right_parts hc
  exact fun id hid => ⟨(right_ids p3 (by decide) id hid).1, (right_ids p3 (by decide) id hid).2.1⟩
theorem right_10 {s : St} {i : Int} (hc : checkF s = 0) (hi : 0 ≤ i ∧ i < s.objs.length) : 0 ≤ s.objs.getD i.toNat noObj 10 ∧ s.objs.getD i.toNat noObj 10 < 256 := by
  obtain ⟨p1, p2, p3, p4⟩ := right_parts hc
  have h := right_obj p2 (i := i.toNat) (by omega) 10 (by decide)
  exact ⟨h.1, Int.lt_of_le_of_lt h.2 (by simp only [oHi]; omega)⟩
theorem rof_calls (s : St) (i : Int) (h1 : isF s i = true) (hb : s.objs.length ≤ 1000000) (hl : ∀ z, (s.lists z).length ≤ 1000000) (h : Hp) : ACalls prog G 37 [eState s, .int .i64 i] h fun r h' => r = .agg (cSh (ofF s i).1) ∧ h' = h := by
  have hi := is_in h1
  obtain ⟨hc, hcr⟩ := isF_iff.1 h1
  have hz := right_z hc
  have h10 := right_10 hc hi
  rw [of_right h1, ← (rof_w (i := i) hz h10).1]
  exact refOf_calls s i hi hz (hl 8) (right_obd (right_parts hc).2.1 hi) ⟨h10.1, by omega⟩ h
theorem of_w {s : St} {i : Int} (h1 : isF s i = true) : 0 ≤ (ofF s i).1.w ∧ (ofF s i).1.w < 256 := by
  obtain ⟨hc, hcr⟩ := isF_iff.1 h1
  rw [of_right h1]
  exact (rof_w (i := i) (right_z hc) (right_10 hc (is_in h1))).2
theorem has_word {s : St} {i n : Int} {k : Nat} (h1 : isF s i = true) (hn : n = ((2 ^ k : Nat) : Int)) (hk : k < 8) : ((ofF s i).1.w / n % 2 == 1) = hasF s i n := by
  obtain ⟨hc, hcr⟩ := isF_iff.1 h1
  have h10 := right_10 hc (is_in h1)
  subst hn
  rw [word_eq rfl hk hc hcr (right_z hc) h10, of_right h1, (rof_w (i := i) (right_z hc) h10).1]

theorem ris_calls (s : St) (i : Int) (hb : s.objs.length ≤ 1000000) (hl : ∀ z, (s.lists z).length ≤ 1000000) (h : Hp) : ACalls prog G 36 [eState s, .int .i64 i] h fun r h' => r = .bool (isF s i) ∧ h' = h := by
  refine ACalls.enter func36 rfl ntmps36 results36 rfl ?_
  refine .seq <|
    .region <|
    .bx rfl rfl <|
    .aB rfl rfl <|
    .nil <|
    .seq <|
    .region <|
    .lw rfl isAgg29 sizeOf29 rfl rfl ?_
  refine .u rfl rfl rfl (QOp.call rfl call28 fun h' hl' => by exact refCheck_calls _ (by assumption) (by assumption) h') ?_
  refine .qe rfl rfl rfl <|
    .mB rfl rfl ?_
  refine .gt rfl rfl rfl (fun _ => tl0) (fun hc => q_load_iW rfl isAgg29 sizeOf29 rfl (by rfl)) ?_
  refine .gt rfl rfl rfl (fun _ => tl0) (fun hc => q_mv rfl (rfl : _ = V.int _ _)) ?_
  refine .gt rfl rfl rfl (fun hc => tl2 10 9 (.opt hc) (.opt hc)) (fun hc => QOp.call rfl (by exact call77) fun h' hl' => by exact refIs_calls _ _ h') ?_
  refine .pt rfl rfl rfl rfl <|
    .aB rfl rfl <|
    .nil ?_
  refine AW.ret ?_
  exact retQ.mk' (.one _) (VLe.of_eq (congrArg V.bool (by rw [refCheck_eq]; rfl))) (HLe.refl _) ⟨rfl, rfl⟩

theorem word_calls (s : St) (i n : Int) {k : Nat} (hn : n = ((2 ^ k : Nat) : Int)) (hk : k < 8) (h1 : isF s i = true) (hb : s.objs.length ≤ 1000000) (hl : ∀ z, (s.lists z).length ≤ 1000000) (h : Hp) : ACalls prog G 38 [eState s, .int .i64 i, .int .i64 n] h fun r h' => r = .bool (hasF s i n) ∧ h' = h := by
  have hw := of_w h1
  have hp : 0 < n := by have : 0 < 2 ^ k := Nat.pow_pos (by decide); omega
  have hq : 0 ≤ (ofF s i).1.w / n := Int.ediv_nonneg hw.1 (by omega)
  have hq2 : (ofF s i).1.w / n ≤ (ofF s i).1.w := Int.ediv_le_self _ hw.1
  refine ACalls.enter func38 rfl ntmps38 results38 rfl ?_
  refine .seq <|
    .region <|
    .bx rfl rfl <|
    .aB rfl rfl <|
    .nil <|
    .seq <|
    .region <|
    .lw rfl isAgg29 sizeOf29 rfl rfl <|
    .mI rfl rfl ?_
  refine .u rfl rfl rfl (QOp.call rfl call37 fun h' hl' => by exact rof_calls s i h1 hb hl h') ?_
  refine .u rfl rfl rfl (q_f1 rfl underlying64 rfl (by exact isAgg3) rfl rfl) ?_
  refine .mI rfl rfl ?_
  refine .u rfl rfl rfl (q_quo' rfl rfl rfl (by omega) (by omega)) ?_
  refine .u rfl rfl rfl (q_rem' rfl rfl rfl (by omega) (by omega)) ?_
  refine .qe rfl rfl rfl <|
    .aB rfl rfl <|
    .nil ?_
  refine AW.ret ?_
  exact retQ.mk' (.one _) (VLe.of_eq (congrArg V.bool (has_word h1 hn hk))) (HLe.refl _) ⟨rfl, rfl⟩

theorem rattackers_calls (s : St) (hb : s.objs.length ≤ 1000000) (hl : ∀ z, (s.lists z).length ≤ 1000000) (h : Hp) : ACalls prog G 12 [eState s] h fun r h' => r = eInts (attackersF s) ∧ h' = h := by
  have hl8 := hl 8
  refine ACalls.enter func12 rfl ntmps12 results12 rfl ?_
  refine .seq <|
    .region <|
    .bx rfl rfl <|
    .aN rfl rfl <|
    .nil <|
    .seq <|
    .region ?_
  refine .u rfl rfl rfl (q_buildSl (ds := []) rfl underlying23 sizeOf3 zeroValue3 rfl rfl rfl rfl rfl) ?_
  refine .aS rfl rfl <|
    .nil <|
    .seq <|
    .seq <|
    .region <|
    .fi rfl f29_1 rfl ?_
  refine .u rfl rfl rfl (q_ia_ai rfl underlying24 sizeOf23 rfl rfl (by decide) (by decide) rfl) ?_
  refine .li rfl isAgg23 rfl rfl <|
    .ln rfl underlying23 rfl <|
    .mI rfl rfl <|
    .nil <|
    .block ?_
  refine AW.loop (fun n T hh => ∃ (i : Nat) (v : V), i ≤ (s.lists 8).length ∧ n = (s.lists 8).length - i ∧ T = put (put (put (put (put (T0) 11 (V.int .i64 (i : Nat))) 10 (V.int .i64 (s.lists 8).length)) 9 (eInts (s.lists 8))) 3 (v)) 1 (V.iptr (cState s)) ∧ Go.AV.Acc h 1 (filUp (attacksF s) (s.lists 8) i).length (cInts (filUp (attacksF s) (s.lists 8) i)) v hh) ((s.lists 8).length) ?_ ?_
  · skip
    refine Wk.mk (TLe.put (d := 1) (VLe.refl _) (TLe.put (d := 3) (VLe.refl _) (TLe.put (d := 9) (VLe.refl _) (TLe.put (d := 10) (VLe.refl _) (TLe.put (d := 11) (by exact VLe.of_eq (congrArg (V.int .i64) (by first | rfl | omega))) (TLe.zero _)))))) (HLe.refl _) ⟨0, _, Nat.zero_le _, rfl, rfl, by exact Go.AV.Acc.full rfl⟩
  · skip
    rintro n T h' ⟨i, v, hi, rfl, rfl, hem⟩
    refine .seq <|
      .region <|
      .ql rfl rfl rfl <|
      .nil <|
      .seq ?_
    refine AW.cond rfl (fun c0 => ?_) (fun c0 => ?_)
    · have hlt : i < (s.lists 8).length := by have := of_decide_eq_true c0; omega
      have hul := fil_le (p := attacksF s) (l := s.lists 8) (k := i)
      refine AW.skip ?_
      refine .seq <|
        .block <|
        .seq <|
        .region ?_
      refine .u rfl rfl rfl (q_ia_s rfl underlying23 sizeOf3 rfl rfl (by omega) (by omega) (cInts_at hlt)) ?_
      refine .li rfl isAgg3 rfl rfl <|
        .aI rfl rfl <|
        .nil <|
        .seq <|
        .region <|
        .lw rfl isAgg29 sizeOf29 rfl rfl <|
        .mI rfl rfl ?_
      refine .u rfl rfl rfl (QOp.call rfl call36 fun h' hl' => by exact ris_calls _ _ hb hl h') ?_
      refine .mB rfl rfl ?_
      refine .gt rfl rfl rfl (fun _ => tl0) (fun hc => q_fa_i rfl underlying29 rfl (by exact sizeOf22) (by decide) rfl (rfl : _ = List.drop 0 _)) ?_
      refine .gt rfl rfl rfl (fun hc => tl1 19 (.opt hc)) (fun hc => q_load_i1 rfl isAgg22 rfl rfl) ?_
      refine .gt rfl rfl rfl (fun _ => tl0) (fun hc => q_mv rfl (rfl : _ = V.int _ _)) ?_
      refine .gt rfl rfl rfl (fun hc => tl2 21 20 (.opt hc) (.opt hc)) (fun hc => q_ia_s rfl underlying22 sizeOf58 rfl rfl (is_in hc).1 (is_in hc).2 (cObjs_elem' (is_in hc).1 (is_in hc).2)) ?_
      refine .gt rfl rfl rfl (fun hc => tl1 22 (.opt hc)) (fun hc => q_ia_ai rfl underlying58 sizeOf3 rfl rfl (by decide) (by decide) rfl) ?_
      refine .gt rfl rfl rfl (fun hc => tl1 23 (.opt hc)) (fun hc => q_load_i1 rfl isAgg3 rfl rfl) ?_
      refine .gt rfl rfl rfl (fun hc => tl1 24 (.opt hc)) (fun hc => q_eq rfl rfl rfl) ?_
      refine .pt rfl rfl rfl rfl <|
        .nil ?_
      refine AW.cond rfl (fun c1 => ?_) (fun c1 => ?_)
      · skip
        refine .region ?_
        refine .u rfl rfl rfl (q_mv rfl (rfl : _ = _)) ?_
        refine .mI rfl rfl ?_
        refine .u rfl rfl rfl (q_buildSl rfl underlying23 sizeOf3 zeroValue3 rfl rfl rfl rfl rfl) ?_
        refine AOps.s rfl rfl rfl (a_append rfl underlying23 (i := t3) (by kernel_rfl) rfl (n := 1) (by' := 8) rfl rfl rfl rfl hem rfl rfl (by decide) (by omega) (by omega) rfl (fun v2 h2 acc => ?_))
        refine .u rfl rfl rfl (q_as rfl (rfl : _ = _)) ?_
        refine .nil <|
          .region <|
          .ad rfl rfl rfl (by omega) <|
          .mI rfl rfl <|
          .nil ?_
        refine Wk.mk (TLe.put (d := 1) (VLe.refl _) (TLe.put (d := 3) (VLe.refl _) (TLe.put (d := 9) (VLe.refl _) (TLe.put (d := 10) (VLe.refl _) (TLe.put (d := 11) (by exact VLe.of_eq (congrArg (V.int .i64) (by first | rfl | omega))) (TLe.zero _)))))) (HLe.refl _) ⟨_, ?_, i + 1, _, ?_, rfl, rfl, by first | (rw [fil_yes hlt (by first | exact c1 | (rw [cnd_and] at c1; exact c1)), cInts_app, List.length_append]; exact acc) | (rw [fil_no hlt (by first | exact c1 | (rw [cnd_and] at c1; exact c1))]; exact hem)⟩
        · omega
        · omega
      · skip
        refine AW.skip ?_
        refine .region <|
          .ad rfl rfl rfl (by omega) <|
          .mI rfl rfl <|
          .nil ?_
        refine Wk.mk (TLe.put (d := 1) (VLe.refl _) (TLe.put (d := 3) (VLe.refl _) (TLe.put (d := 9) (VLe.refl _) (TLe.put (d := 10) (VLe.refl _) (TLe.put (d := 11) (by exact VLe.of_eq (congrArg (V.int .i64) (by first | rfl | omega))) (TLe.zero _)))))) (HLe.refl _) ⟨_, ?_, i + 1, _, ?_, rfl, rfl, by first | (rw [fil_yes hlt (by first | exact c1 | (rw [cnd_and] at c1; exact c1)), cInts_app, List.length_append]; exact acc) | (rw [fil_no hlt (by first | exact c1 | (rw [cnd_and] at c1; exact c1))]; exact hem)⟩
        · omega
        · omega
    · obtain rfl : i = (s.lists 8).length := by have := of_decide_eq_false c0; omega
      rw [fil_all] at hem
      refine AW.exit ?_
      refine .seq <|
        .region ?_
      refine .u rfl rfl rfl (q_mv rfl (rfl : _ = _)) ?_
      refine .u rfl rfl rfl (q_as rfl (rfl : _ = _)) ?_
      refine .nil ?_
      refine AW.ret ?_
      exact retQ.mk' (.one _) hem.vle hem.hle ⟨rfl, rfl⟩

theorem rstops_calls (s : St) (i a : Int) (hb : s.objs.length ≤ 1000000) (hl : ∀ z, (s.lists z).length ≤ 1000000) (h : Hp) : ACalls prog G 14 [eState s, .int .i64 i, .int .i64 a] h fun r h' => r = .bool (stopsF s i a) ∧ h' = h := by
  refine ACalls.enter func14 rfl ntmps14 results14 rfl ?_
  refine .seq <|
    .region <|
    .bx rfl rfl <|
    .aB rfl rfl <|
    .nil <|
    .seq <|
    .seq <|
    .region <|
    .lw rfl isAgg29 sizeOf29 rfl rfl <|
    .mI rfl rfl ?_
  refine .u rfl rfl rfl (QOp.call rfl call36 fun h' hl' => by exact ris_calls _ _ hb hl h') ?_
  refine .nt rfl rfl <|
    .mB rfl rfl ?_
  refine .gf rfl rfl rfl (fun _ => tl0) (fun hc => q_load_iW rfl isAgg29 sizeOf29 rfl (by rfl)) ?_
  refine .gf rfl rfl rfl (fun _ => tl0) (fun hc => q_mv rfl (rfl : _ = V.int _ _)) ?_
  refine .gf rfl rfl rfl (fun hc => tl2 14 13 (.opt hc) (.opt hc)) (fun hc => QOp.call rfl (by exact call36) fun h' hl' => by exact ris_calls _ _ hb hl h') ?_
  refine .gf rfl rfl rfl (fun hc => tl1 15 (.opt hc)) (fun hc => q_not rfl rfl) ?_
  refine .pf rfl rfl rfl rfl <|
    .mB rfl rfl ?_
  refine .gf rfl rfl rfl (fun _ => tl0) (fun hc => q_fa_i rfl underlying29 rfl (by exact sizeOf22) (by decide) rfl (rfl : _ = List.drop 0 _)) ?_
  refine .gf rfl rfl rfl (fun hc => tl1 19 (.opt hc)) (fun hc => q_load_i1 rfl isAgg22 rfl rfl) ?_
  refine .gf rfl rfl rfl (fun _ => tl0) (fun hc => q_mv rfl (rfl : _ = V.int _ _)) ?_
  refine .gf rfl rfl rfl (fun hc => tl2 21 20 (.opt hc) (.opt hc)) (fun hc => q_ia_s rfl underlying22 sizeOf58 rfl rfl (is_in (by cases e : isF s a <;> simp_all)).1 (is_in (by cases e : isF s a <;> simp_all)).2 (cObjs_elem' (is_in (by cases e : isF s a <;> simp_all)).1 (is_in (by cases e : isF s a <;> simp_all)).2)) ?_
  refine .gf rfl rfl rfl (fun hc => tl1 22 (.opt hc)) (fun hc => q_ia_ai rfl underlying58 sizeOf3 rfl rfl (by decide) (by decide) rfl) ?_
  refine .gf rfl rfl rfl (fun hc => tl1 23 (.opt hc)) (fun hc => q_load_i1 rfl isAgg3 rfl rfl) ?_
  refine .gf rfl rfl rfl (fun hc => tl1 24 (.opt hc)) (fun hc => q_ne rfl rfl rfl) ?_
  refine .pf rfl rfl rfl rfl <|
    .nil ?_
  refine AW.cond rfl (fun c0 => ?_) (fun c0 => ?_)
  · skip
    refine .seq <|
      .region <|
      .aB rfl rfl <|
      .nil ?_
    refine AW.ret ?_
    exact retQ.mk' (.one _) (VLe.of_eq (congrArg V.bool (by rw [stopsF, attacksF]; cases e : isF s i <;> cases e2 : isF s a <;> simp_all))) (HLe.refl _) ⟨rfl, rfl⟩
  · have hI : isF s i = true := by cases e : isF s i <;> simp_all
    have hA : isF s a = true := by cases e : isF s a <;> simp_all
    have h11 : (s.objs.getD a.toNat noObj 11 == 1) = true := by rw [hI, hA] at c0; simpa using c0
    have hi := is_in hI
    have hg := right_active (isF_iff.1 hI).1
    have h4 := right_obj (right_parts (isF_iff.1 hI).1).2.1 (i := i.toNat) (by omega) 4 (by decide)
    refine AW.skip ?_
    refine .seq <|
      .region <|
      .fi rfl f29_0 rfl <|
      .li rfl isAgg22 rfl rfl <|
      .mI rfl rfl ?_
    refine .u rfl rfl rfl (q_ia_s rfl underlying22 sizeOf58 rfl rfl (hi).1 (hi).2 (cObjs_elem' (hi).1 (hi).2)) ?_
    refine .lw rfl isAgg58 sizeOf58 rfl rfl ?_
    refine AOps.s rfl rfl rfl (a_alloc rfl zeroValue58 rfl (fun id7 hid7 => ?_))
    refine .sw sizeOf58 rfl rfl rfl rfl ?_
    refine AOps.done 7 rfl hid7 ?_
    refine .nil <|
      .seq <|
      .region ?_
    refine .u rfl rfl rfl (q_ia_ai rfl underlying58 sizeOf3 rfl rfl (by decide) (by decide) rfl) ?_
    refine .li rfl isAgg3 rfl rfl <|
      .fi rfl f29_30 rfl ?_
    refine .u rfl rfl rfl (q_ia_ai rfl underlying27 sizeOf3 rfl rfl (by decide) (by decide) rfl) ?_
    refine .li rfl isAgg3 rfl rfl ?_
    refine .u rfl rfl rfl (q_sub' rfl rfl rfl (by omega)) ?_
    refine .qe rfl rfl rfl <|
      .mB rfl rfl ?_
    refine .gt rfl rfl rfl (fun _ => tl0) (fun hc => q_ia_ai rfl underlying58 sizeOf3 rfl rfl (by decide) (by decide) rfl) ?_
    refine .gt rfl rfl rfl (fun hc => tl1 40 (.opt hc)) (fun hc => q_load_i1 rfl isAgg3 rfl rfl) ?_
    refine .gt rfl rfl rfl (fun hc => tl1 41 (.opt hc)) (fun hc => q_eq rfl rfl rfl) ?_
    refine .pt rfl rfl rfl rfl <|
      .mB rfl rfl ?_
    refine .gt rfl rfl rfl (fun _ => tl0) (fun hc => q_load_iW rfl isAgg29 sizeOf29 rfl (by rfl)) ?_
    refine .gt rfl rfl rfl (fun _ => tl0) (fun hc => q_mv rfl (rfl : _ = V.int _ _)) ?_
    refine .gt rfl rfl rfl (fun hc => tl2 46 45 (.opt hc) (.opt hc)) (fun hc => QOp.call rfl (by exact call38) fun h' hl' => by exact word_calls s a 1 (k := 0) rfl (by decide) hA hb hl h') ?_
    refine .gt rfl rfl rfl (fun hc => tl1 47 (.opt hc)) (fun hc => q_not rfl rfl) ?_
    refine .gt rfl rfl rfl (fun hc => tl1 48 (.opt hc)) (fun hc => q_mv rfl (rfl : _ = V.bool _)) ?_
    refine AOps.g (wanted_fo rfl rfl) rfl rfl (fun _ => tl0) (fun hc => q_load_iW rfl isAgg29 sizeOf29 rfl (by rfl)) ?_
    refine AOps.g (wanted_fo rfl rfl) rfl rfl (fun _ => tl0) (fun hc => q_mv rfl (rfl : _ = V.int _ _)) ?_
    refine AOps.g (wanted_fo rfl rfl) rfl rfl (fun hc => tl2 51 50 (.opt hc) (.opt hc)) (fun hc => QOp.call rfl (by exact call38) fun h' hl' => by exact word_calls s i 1 (k := 0) rfl (by decide) hI hb hl h') ?_
    refine .gt rfl rfl rfl (fun hc => tl1 49 (.opt hc)) (fun hc => q_pickg rfl rfl (fun hp => by exact VLe.refl _) (fun hp => by first | exact VLe.opt hp | exact VLe.opt (by rw [hp]; rfl) | exact VLe.opt (by simp_all))) ?_
    refine .gt rfl rfl rfl (fun hc => tl1 53 (.opt hc)) (fun hc => q_mv rfl (rfl : _ = V.bool _)) ?_
    refine AOps.g (wanted_fo rfl rfl) rfl rfl (fun _ => tl0) (fun hc => q_load_iW rfl isAgg29 sizeOf29 rfl (by rfl)) ?_
    refine AOps.g (wanted_fo rfl rfl) rfl rfl (fun _ => tl0) (fun hc => q_mv rfl (rfl : _ = V.int _ _)) ?_
    refine AOps.g (wanted_fo rfl rfl) rfl rfl (fun hc => tl2 56 55 (.opt hc) (.opt hc)) (fun hc => QOp.call rfl (by exact call38) fun h' hl' => by exact word_calls s i 2 (k := 1) rfl (by decide) hI hb hl h') ?_
    refine .gt rfl rfl rfl (fun hc => tl1 54 (.opt hc)) (fun hc => q_pickg rfl rfl (fun hp => by exact VLe.refl _) (fun hp => by first | exact VLe.opt hp | exact VLe.opt (by rw [hp]; rfl) | exact VLe.opt (by simp_all))) ?_
    refine .pt rfl rfl rfl rfl <|
      .aB rfl rfl <|
      .nil ?_
    refine AW.ret ?_
    exact retQ.mk' (.one _) (VLe.of_eq (congrArg V.bool (by
      have e1 : foeF (s.game 1) = 1 - s.game 1 := by rw [foeF, if_pos (by omega)]
      have e4 : (s.objs.getD i.toNat noObj 4 != 1) = (s.objs.getD i.toNat noObj 4 == 0) := by
        have : s.objs.getD i.toNat noObj 4 = 0 ∨ s.objs.getD i.toNat noObj 4 = 1 := by have a1 : 0 ≤ s.objs.getD i.toNat noObj 4 := h4.1; have a2 : s.objs.getD i.toNat noObj 4 ≤ 1 := h4.2; omega
        rcases this with e | e <;> rw [e] <;> rfl
      rw [stopsF, attacksF, hI, hA, h11, e1, e4]
      cases s.objs.getD i.toNat noObj 2 == 1 - s.game 1 <;> cases s.objs.getD i.toNat noObj 4 == 0 <;> cases hasF s a 1 <;> cases hasF s i 1 <;> cases hasF s i 2 <;> rfl))) (HLe.refl _) ⟨rfl, rfl⟩

end Go.Proofs.YtijhmlkffkedeaaGreatDoor
/- Walks: all hits, by the document. -/
namespace Go.Proofs.YtijhmlkffkedeaaGreatDoor
open Go Go.AV Go.Proofs.Tryz
set_option maxRecDepth 100000
set_option maxHeartbeats 1000000
def rOut (s : St) (k : Nat) : List Hit := (allHitUp s k).filter liveH
def rFront (s : St) (k : Nat) (a : Int) (bl : List Int) (j : Nat) : List Hit := rOut s k ++ (hitUp s a bl j).1.filter liveH
def rMid (s : St) (k : Nat) (a : Int) (bl : List Int) : List Hit := rFront s k a bl bl.length ++ (if bl.length = 0 ∨ hasF s a 64 = true then [(⟨a, foeAt s, (hitUp s a bl bl.length).2⟩ : Hit)] else []).filter liveH
def rBack (s : St) (k : Nat) (a : Int) (bl : List Int) (q : Nat) : List Hit := rMid s k a bl ++ (hitBack s a bl q).filter liveH
theorem live_one {x : Hit} : [x].filter liveH = if x.n = 0 then [] else [x] := by
  by_cases h : x.n = 0 <;> simp [liveH, h]
theorem rFront_yes {s : St} {k j : Nat} {a : Int} {bl : List Int} (h : 0 < takesF s a bl j (hitUp s a bl j).2) : rFront s k a bl (j + 1) = rFront s k a bl j ++ [⟨a, atF (bl.getD j 0), takesF s a bl j (hitUp s a bl j).2⟩] := by
  rw [rFront, hitUp, List.filter_append, live_one, if_neg (by simp only; omega), ← List.append_assoc]; rfl
theorem rFront_no {s : St} {k j : Nat} {a : Int} {bl : List Int} (h : takesF s a bl j (hitUp s a bl j).2 = 0) : rFront s k a bl (j + 1) = rFront s k a bl j := by
  rw [rFront, hitUp, List.filter_append, live_one, if_pos (by simp only; omega), List.append_nil]; rfl
theorem rMid_yes {s : St} {k : Nat} {a : Int} {bl : List Int} (h : bl.length = 0 ∨ hasF s a 64 = true) (h2 : 0 < (hitUp s a bl bl.length).2) : rMid s k a bl = rFront s k a bl bl.length ++ [⟨a, foeAt s, (hitUp s a bl bl.length).2⟩] := by
  rw [rMid, if_pos h, live_one, if_neg (by simp only; omega)]
theorem rMid_no {s : St} {k : Nat} {a : Int} {bl : List Int} (h : ¬ (bl.length = 0 ∨ hasF s a 64 = true) ∨ (hitUp s a bl bl.length).2 = 0) : rMid s k a bl = rFront s k a bl bl.length := by
  rw [rMid]
  by_cases h1 : bl.length = 0 ∨ hasF s a 64 = true
  · rw [if_pos h1, live_one, if_pos (by rcases h with e | e; exact absurd h1 e; exact e), List.append_nil]
  · rw [if_neg h1]; simp
theorem rBack_yes {s : St} {k q : Nat} {a : Int} {bl : List Int} (h : 0 < powerF s (bl.getD q 0)) : rBack s k a bl (q + 1) = rBack s k a bl q ++ [⟨bl.getD q 0, atF a, powerF s (bl.getD q 0)⟩] := by
  rw [rBack, hitBack_next, List.filter_append, live_one, if_neg (by simp only; omega), ← List.append_assoc]; rfl
theorem rBack_no {s : St} {k q : Nat} {a : Int} {bl : List Int} (h : powerF s (bl.getD q 0) = 0) : rBack s k a bl (q + 1) = rBack s k a bl q := by
  rw [rBack, hitBack_next, List.filter_append, live_one, if_pos (by simp only; omega), List.append_nil]; rfl
theorem rBack_all {s : St} {k : Nat} (h : k < (attackersF s).length) : rBack s k ((attackersF s).getD k 0) (blockersF s ((attackersF s).getD k 0)) (blockersF s ((attackersF s).getD k 0)).length = rOut s (k + 1) := by
  generalize ha : (attackersF s).getD k 0 = a
  rw [rOut, allHit_next h, List.filter_append, ha, rBack, rMid, rFront, rOut, List.append_assoc, List.append_assoc]
  congr 1
  rw [← List.append_assoc, ← List.filter_append, ← List.filter_append]
  congr 1
  unfold hitsF
  by_cases hz : (blockersF s a).length = 0
  · have e : blockersF s a = [] := List.eq_nil_of_length_eq_zero hz
    rw [e]; simp [hitUp, hitBack]
  · rw [if_neg hz]
    rw [hitFront]
    by_cases h64 : hasF s a 64 = true
    · rw [if_pos (.inr h64), if_pos h64, List.append_assoc]
    · rw [if_neg (by intro e; rcases e with e | e; exact hz e; exact h64 e), if_neg h64, List.append_assoc]
theorem up_len {s : St} {a : Int} {bl : List Int} {k : Nat} (hk : k < (attackersF s).length) (hl8 : (s.lists 8).length ≤ 400) (ha : (attackersF s).length ≤ (s.lists 8).length) (hb : bl.length ≤ (s.lists 8).length) {j q : Nat} (hj : j ≤ bl.length) (hq : q ≤ bl.length) :
    (rFront s k a bl j).length ≤ 330000 ∧ (rMid s k a bl).length ≤ 330000 ∧ (rBack s k a bl q).length ≤ 330000 := by
  have h1 := allHit_len (s := s) k
  have hkm : k * (2 * (s.lists 8).length + 1) ≤ 400 * 801 := Nat.mul_le_mul (by omega) (by omega)
  have h2 : (rOut s k).length ≤ (allHitUp s k).length := List.length_filter_le _ _
  have h3 : ∀ j, ((hitUp s a bl j).1.filter liveH).length ≤ j := fun j => Nat.le_trans (List.length_filter_le _ _) (by rw [hitUp_len]; exact Nat.le_refl _)
  have h4 : ((hitBack s a bl q).filter liveH).length ≤ q := Nat.le_trans (List.length_filter_le _ _) (by rw [hitBack_len]; exact Nat.le_refl _)
  have f : ∀ j, j ≤ bl.length → (rFront s k a bl j).length ≤ (rOut s k).length + bl.length := fun j hj => by
    rw [rFront, List.length_append]; have := h3 j; omega
  have m : (rMid s k a bl).length ≤ (rOut s k).length + bl.length + 1 := by
    rw [rMid, List.length_append]
    have := f _ (Nat.le_refl _)
    have : ((if bl.length = 0 ∨ hasF s a 64 = true then [(⟨a, foeAt s, (hitUp s a bl bl.length).2⟩ : Hit)] else []).filter liveH).length ≤ 1 := Nat.le_trans (List.length_filter_le _ _) (by split <;> simp)
    omega
  have b : (rBack s k a bl q).length ≤ (rOut s k).length + bl.length + 1 + bl.length := by
    rw [rBack, List.length_append]; omega
  have := f _ hj
  omega
theorem mid_c {x : Int} {n : Nat} {w : Bool} (c : (bif decide (0 < x) then (bif (n : Int) == 0 then true else w) else false) = true) : (n = 0 ∨ w = true) ∧ 0 < x := by
  by_cases h1 : 0 < x
  · by_cases h2 : n = 0
    · exact ⟨.inl h2, h1⟩
    · have : ((n : Int) == 0) = false := by simpa using h2
      simp [h1, this] at c; exact ⟨.inr c, h1⟩
  · simp [h1] at c
theorem mid_n {x : Int} {n : Nat} {w : Bool} (h : 0 ≤ x) (c : (bif decide (0 < x) then (bif (n : Int) == 0 then true else w) else false) = false) : ¬ (n = 0 ∨ w = true) ∨ x = 0 := by
  by_cases h1 : 0 < x
  · refine .inl fun e => ?_
    rcases e with e | e <;> simp [h1, e] at c
  · exact .inr (by omega)
theorem rtakes_no {s : St} {a left : Int} {bl : List Int} {j : Nat} (c : (bif hasF s a 64 then true else decide ((j : Int) + 1 < (bl.length : Int))) = false) : left = takesF s a bl j left := by
  rw [takesF, if_neg]
  rintro (e | e)
  · rw [e] at c; cases c
  · cases hh : hasF s a 64 <;> rw [hh] at c <;> simp at c; omega
theorem rtakes_yes {s : St} {a left : Int} {bl : List Int} {j : Nat} (c : (bif hasF s a 64 then true else decide ((j : Int) + 1 < (bl.length : Int))) = true) : takesF s a bl j left = min left (needsF s a (bl.getD j 0)) := by
  rw [takesF, if_pos]
  cases hh : hasF s a 64
  · rw [hh] at c; simp at c; exact .inr (by omega)
  · exact .inl rfl
theorem needs_16 {s : St} {a b : Int} (h16 : hasF s a 16 = true) : needsF s a b = 1 := by rw [needsF, if_pos h16]
theorem pow_right {s : St} {i : Int} (h : isF s i = true) : max (ofF s i).1.p 0 = powerF s i := by
  rw [powerF, if_pos (by rw [of_right h])]
theorem needs_right {s : St} {a b : Int} (h : isF s b = true) (h16 : hasF s a 16 = false) : max ((ofF s b).1.t - s.objs.getD b.toNat noObj 6) 0 = needsF s a b := by
  have e : (ofF s b).2 = 0 := by rw [of_right h]
  have e2 : leftF s b = ((ofF s b).1.t - s.objs.getD b.toNat noObj 6, 0) := by rw [leftF, if_neg (by omega)]
  rw [needsF, if_neg (by rw [h16]; decide), e2, if_pos rfl]

theorem rhits_calls (s : St) (hb : s.objs.length ≤ 1000000) (hl : ∀ z, (s.lists z).length ≤ 1000000) (h : Hp) : ACalls prog G 9 [eState s] h fun r h' => r = eHits (strikesF s) ∧ h' = h := by
  refine ACalls.enter func9 rfl ntmps9 results9 rfl ?_
  refine .seq <|
    .region <|
    .bx rfl rfl <|
    .aN rfl rfl <|
    .nil <|
    .seq <|
    .region ?_
  refine .u rfl rfl rfl (q_buildSl (ds := []) rfl underlying34 sizeOf41 zeroValue41 rfl rfl rfl rfl rfl) ?_
  refine .aS rfl rfl <|
    .nil <|
    .seq <|
    .seq <|
    .region <|
    .lw rfl isAgg29 sizeOf29 rfl rfl ?_
  refine .u rfl rfl rfl (QOp.call rfl call28 fun h' hl' => by exact refCheck_calls _ (by assumption) (by assumption) h') ?_
  refine .qn rfl rfl rfl <|
    .nil ?_
  refine AW.cond rfl (fun c0 => ?_) (fun c0 => ?_)
  · skip
    refine .seq <|
      .region <|
      .mS rfl rfl <|
      .aS rfl rfl <|
      .nil ?_
    refine AW.ret ?_
    exact retQ.mk' (.one _) (by rw [strikesF, if_pos (by simpa [refCheck_eq] using c0)]; exact .fullimm) (HLe.refl _) ⟨rfl, rfl⟩
  · have hc0 : checkF s = 0 := by simpa [refCheck_eq] using c0
    have h8 := right_z hc0
    have hg := right_active hc0
    have hal : (attackersF s).length ≤ (s.lists 8).length := List.length_filter_le _ _
    have hl8 : (s.lists 8).length ≤ 400 := right_l8 hc0
    refine AW.skip ?_
    refine .seq <|
      .region <|
      .fi rfl f29_30 rfl ?_
    refine .u rfl rfl rfl (q_ia_ai rfl underlying27 sizeOf3 rfl rfl (by decide) (by decide) rfl) ?_
    refine .li rfl isAgg3 rfl rfl ?_
    refine .u rfl rfl rfl (q_sub' rfl rfl rfl (by omega)) ?_
    refine .aI rfl rfl <|
      .nil <|
      .seq <|
      .seq <|
      .region <|
      .lw rfl isAgg29 sizeOf29 rfl rfl ?_
    refine .u rfl rfl rfl (QOp.call rfl call12 fun h' hl' => by exact rattackers_calls s hb hl h') ?_
    refine .ln rfl underlying23 rfl <|
      .mI rfl rfl <|
      .nil <|
      .block ?_
    refine AW.loop (fun n T hh => ∃ (k : Nat) (v : V), k ≤ (attackersF s).length ∧ n = (attackersF s).length - k ∧ T = put (put (put (put (put (put (T0) 30 (V.int .i64 (k : Nat))) 29 (V.int .i64 (attackersF s).length)) 28 (eInts (attackersF s))) 4 (V.int .i64 (foeAt s))) 3 (v)) 1 (V.iptr (cState s)) ∧ Go.AV.Acc h 3 (rOut s k).length (cHits (rOut s k)) v hh) ((attackersF s).length) ?_ ?_
    · skip
      refine Wk.mk (TLe.put (d := 1) (VLe.refl _) (TLe.put (d := 3) (VLe.refl _) (TLe.put (d := 4) (VLe.of_eq (congrArg (V.int .i64) (by rw [foeAt, foeF, if_pos (by omega)]; omega))) (TLe.put (d := 28) (VLe.refl _) (TLe.put (d := 29) (VLe.refl _) (TLe.put (d := 30) (by exact VLe.of_eq (congrArg (V.int .i64) (by first | rfl | omega))) (TLe.zero _))))))) (HLe.refl _) ⟨0, _, Nat.zero_le _, rfl, rfl, by exact Go.AV.Acc.full rfl⟩
    · skip
      rintro n T h' ⟨k, v, hk, rfl, rfl, hem⟩
      refine .seq <|
        .region <|
        .ql rfl rfl rfl <|
        .nil <|
        .seq ?_
      refine AW.cond rfl (fun c1 => ?_) (fun c1 => ?_)
      · have hltk : k < (attackersF s).length := by have := of_decide_eq_true c1; omega
        have hA : isF s ((attackersF s).getD k 0) = true := by
          have := (List.mem_filter.1 (show ((attackersF s).getD k 0) ∈ (s.lists 8).filter (attacksF s) from getD_mem hltk)).2
          unfold attacksF at this; simp only [Bool.and_eq_true] at this; exact this.1
        have hAi := is_in hA
        have hbl : (blockersF s ((attackersF s).getD k 0)).length ≤ (s.lists 8).length := List.length_filter_le _ _
        have hbm : ∀ j, j < (blockersF s ((attackersF s).getD k 0)).length → isF s ((blockersF s ((attackersF s).getD k 0)).getD j 0) = true := fun j hj => by
          have := (List.mem_filter.1 (show (blockersF s ((attackersF s).getD k 0)).getD j 0 ∈ (s.lists 8).filter (blocksF s ((attackersF s).getD k 0)) from getD_mem hj)).2
          unfold blocksF at this; simp only [Bool.and_eq_true] at this; exact this.1
        have hpw := power_bd (i := ((attackersF s).getD k 0)) (hl 8)
        have hfo : foeAt s = s.game 1 - 2 := by rw [foeAt, foeF, if_pos (by omega)]; omega
        have hob := of_bd (i := ((attackersF s).getD k 0)) (hl 8) (by rw [of_right hA])
        refine AW.skip ?_
        refine .seq <|
          .block <|
          .seq <|
          .region ?_
        refine .u rfl rfl rfl (q_ia_s rfl underlying23 sizeOf3 rfl rfl (by omega) (by omega) (cInts_at hltk)) ?_
        refine .li rfl isAgg3 rfl rfl <|
          .aI rfl rfl <|
          .nil <|
          .seq <|
          .region ?_
        refine .u rfl rfl rfl (q_buildSl (ds := []) rfl underlying23 sizeOf3 zeroValue3 rfl rfl rfl rfl rfl) ?_
        refine .aS rfl rfl <|
          .nil ?_
        refine AW.cut (fun T h1 => T = put (put (put (put (put (put (put (put (T0) 1 (V.iptr (cState s))) 3 (v)) 4 (V.int .i64 (foeAt s))) 28 (eInts (attackersF s))) 29 (V.int .i64 (attackersF s).length)) 30 (V.int .i64 (k : Nat))) 6 (V.int .i64 ((attackersF s).getD k 0))) 7 (eInts (blockersF s ((attackersF s).getD k 0))) ∧ h' = h1) ?_ ?_
        · skip
          refine .seq <|
            .region <|
            .fi rfl f29_1 rfl ?_
          refine .u rfl rfl rfl (q_ia_ai rfl underlying24 sizeOf23 rfl rfl (by decide) (by decide) rfl) ?_
          refine .li rfl isAgg23 rfl rfl <|
            .ln rfl underlying23 rfl <|
            .mI rfl rfl <|
            .nil <|
            .block ?_
          refine AW.loop (fun n T hh => ∃ (i : Nat) (vb : V), i ≤ (s.lists 8).length ∧ n = (s.lists 8).length - i ∧ T = put (put (put (put (put (put (put (put (put (put (put (T0) 39 (V.int .i64 (i : Nat))) 38 (V.int .i64 (s.lists 8).length)) 37 (eInts (s.lists 8))) 7 (vb)) 6 (V.int .i64 ((attackersF s).getD k 0))) 30 (V.int .i64 (k : Nat))) 29 (V.int .i64 (attackersF s).length)) 28 (eInts (attackersF s))) 4 (V.int .i64 (foeAt s))) 3 (v)) 1 (V.iptr (cState s)) ∧ Go.AV.Acc h' 1 (filUp (blocksF s ((attackersF s).getD k 0)) (s.lists 8) i).length (cInts (filUp (blocksF s ((attackersF s).getD k 0)) (s.lists 8) i)) vb hh) ((s.lists 8).length) ?_ ?_
          · skip
            refine Wk.mk (TLe.put (d := 1) (VLe.refl _) (TLe.put (d := 3) (VLe.refl _) (TLe.put (d := 4) (VLe.refl _) (TLe.put (d := 28) (VLe.refl _) (TLe.put (d := 29) (VLe.refl _) (TLe.put (d := 30) (VLe.refl _) (TLe.put (d := 6) (VLe.refl _) (TLe.put (d := 7) (VLe.refl _) (TLe.put (d := 37) (VLe.refl _) (TLe.put (d := 38) (VLe.refl _) (TLe.put (d := 39) (by exact VLe.of_eq (congrArg (V.int .i64) (by first | rfl | omega))) (TLe.zero _)))))))))))) (HLe.refl _) ⟨0, _, Nat.zero_le _, rfl, rfl, by exact Go.AV.Acc.full rfl⟩
          · skip
            rintro n T h' ⟨i, vb, hi, rfl, rfl, hemb⟩
            refine .seq <|
              .region <|
              .ql rfl rfl rfl <|
              .nil <|
              .seq ?_
            refine AW.cond rfl (fun c2 => ?_) (fun c2 => ?_)
            · have hlt : i < (s.lists 8).length := by have := of_decide_eq_true c2; omega
              have hul := fil_le (p := blocksF s ((attackersF s).getD k 0)) (l := s.lists 8) (k := i)
              refine AW.skip ?_
              refine .seq <|
                .block <|
                .seq <|
                .region ?_
              refine .u rfl rfl rfl (q_ia_s rfl underlying23 sizeOf3 rfl rfl (by omega) (by omega) (cInts_at hlt)) ?_
              refine .li rfl isAgg3 rfl rfl <|
                .aI rfl rfl <|
                .nil <|
                .seq <|
                .region <|
                .lw rfl isAgg29 sizeOf29 rfl rfl <|
                .mI rfl rfl ?_
              refine .u rfl rfl rfl (QOp.call rfl call36 fun h' hl' => by exact ris_calls _ _ hb hl h') ?_
              refine .mB rfl rfl ?_
              refine .gt rfl rfl rfl (fun _ => tl0) (fun hc => q_fa_i rfl underlying29 rfl (by exact sizeOf22) (by decide) rfl (rfl : _ = List.drop 0 _)) ?_
              refine .gt rfl rfl rfl (fun hc => tl1 47 (.opt hc)) (fun hc => q_load_i1 rfl isAgg22 rfl rfl) ?_
              refine .gt rfl rfl rfl (fun _ => tl0) (fun hc => q_mv rfl (rfl : _ = V.int _ _)) ?_
              refine .gt rfl rfl rfl (fun hc => tl2 49 48 (.opt hc) (.opt hc)) (fun hc => q_ia_s rfl underlying22 sizeOf58 rfl rfl (is_in hc).1 (is_in hc).2 (cObjs_elem' (is_in hc).1 (is_in hc).2)) ?_
              refine .gt rfl rfl rfl (fun hc => tl1 50 (.opt hc)) (fun hc => q_ia_ai rfl underlying58 sizeOf3 rfl rfl (by decide) (by decide) rfl) ?_
              refine .gt rfl rfl rfl (fun hc => tl1 51 (.opt hc)) (fun hc => q_load_i1 rfl isAgg3 rfl rfl) ?_
              refine .gt rfl rfl rfl (fun _ => tl0) (fun hc => q_mv rfl (rfl : _ = V.int _ _)) ?_
              refine .gt rfl rfl rfl (fun hc => tl1 53 (.opt hc)) (fun hc => q_add' rfl rfl rfl (by omega)) ?_
              refine .gt rfl rfl rfl (fun hc => tl2 54 52 (.opt hc) (.opt hc)) (fun hc => q_eq rfl rfl rfl) ?_
              refine .pt rfl rfl rfl rfl <|
                .nil ?_
              refine AW.cond rfl (fun c3 => ?_) (fun c3 => ?_)
              · skip
                refine .region ?_
                refine .u rfl rfl rfl (q_mv rfl (rfl : _ = _)) ?_
                refine .mI rfl rfl ?_
                refine .u rfl rfl rfl (q_buildSl rfl underlying23 sizeOf3 zeroValue3 rfl rfl rfl rfl rfl) ?_
                refine AOps.s rfl rfl rfl (a_append rfl underlying23 (i := t3) (by kernel_rfl) rfl (n := 1) (by' := 8) rfl rfl rfl rfl hemb rfl rfl (by decide) (by omega) (by omega) rfl (fun v2 h2 acc => ?_))
                refine .u rfl rfl rfl (q_as rfl (rfl : _ = _)) ?_
                refine .nil <|
                  .region <|
                  .ad rfl rfl rfl (by omega) <|
                  .mI rfl rfl <|
                  .nil ?_
                refine Wk.mk (TLe.put (d := 1) (VLe.refl _) (TLe.put (d := 3) (VLe.refl _) (TLe.put (d := 4) (VLe.refl _) (TLe.put (d := 28) (VLe.refl _) (TLe.put (d := 29) (VLe.refl _) (TLe.put (d := 30) (VLe.refl _) (TLe.put (d := 6) (VLe.refl _) (TLe.put (d := 7) (VLe.refl _) (TLe.put (d := 37) (VLe.refl _) (TLe.put (d := 38) (VLe.refl _) (TLe.put (d := 39) (by exact VLe.of_eq (congrArg (V.int .i64) (by first | rfl | omega))) (TLe.zero _)))))))))))) (HLe.refl _) ⟨_, ?_, i + 1, _, ?_, rfl, rfl, by first | (rw [fil_yes hlt (by first | exact c3 | (rw [cnd_and] at c3; exact c3)), cInts_app, List.length_append]; exact acc) | (rw [fil_no hlt (by first | exact c3 | (rw [cnd_and] at c3; exact c3))]; exact hemb)⟩
                · omega
                · omega
              · skip
                refine AW.skip ?_
                refine .region <|
                  .ad rfl rfl rfl (by omega) <|
                  .mI rfl rfl <|
                  .nil ?_
                refine Wk.mk (TLe.put (d := 1) (VLe.refl _) (TLe.put (d := 3) (VLe.refl _) (TLe.put (d := 4) (VLe.refl _) (TLe.put (d := 28) (VLe.refl _) (TLe.put (d := 29) (VLe.refl _) (TLe.put (d := 30) (VLe.refl _) (TLe.put (d := 6) (VLe.refl _) (TLe.put (d := 7) (VLe.refl _) (TLe.put (d := 37) (VLe.refl _) (TLe.put (d := 38) (VLe.refl _) (TLe.put (d := 39) (by exact VLe.of_eq (congrArg (V.int .i64) (by first | rfl | omega))) (TLe.zero _)))))))))))) (HLe.refl _) ⟨_, ?_, i + 1, _, ?_, rfl, rfl, by first | (rw [fil_yes hlt (by first | exact c3 | (rw [cnd_and] at c3; exact c3)), cInts_app, List.length_append]; exact acc) | (rw [fil_no hlt (by first | exact c3 | (rw [cnd_and] at c3; exact c3))]; exact hemb)⟩
                · omega
                · omega
            · obtain rfl : i = (s.lists 8).length := by have := of_decide_eq_false c2; omega
              rw [fil_all] at hemb
              refine AW.exit ?_
              exact Wk.mk (TLe.put (d := 7) (by exact hemb.vle) (TLe.put (d := 6) (VLe.refl _) (TLe.put (d := 30) (VLe.refl _) (TLe.put (d := 29) (VLe.refl _) (TLe.put (d := 28) (VLe.refl _) (TLe.put (d := 4) (VLe.refl _) (TLe.put (d := 3) (VLe.refl _) (TLe.put (d := 1) (VLe.refl _) (TLe.zero _))))))))) hemb.hle ⟨rfl, rfl⟩
        · rintro T h1 ⟨rfl, rfl⟩
          refine .seq <|
            .region <|
            .lw rfl isAgg29 sizeOf29 rfl rfl <|
            .mI rfl rfl ?_
          refine .u rfl rfl rfl (QOp.call rfl call37 fun h' hl' => by exact rof_calls s ((attackersF s).getD k 0) hA hb hl h') ?_
          refine .u rfl rfl rfl (q_f1 rfl underlying64 rfl (by exact isAgg3) rfl rfl) ?_
          refine .u rfl rfl rfl (q_max rfl rfl rfl) ?_
          refine .aI rfl rfl <|
            .nil <|
            .seq <|
            .seq <|
            .region <|
            .mS rfl rfl <|
            .ln rfl underlying23 rfl <|
            .mI rfl rfl <|
            .nil <|
            .block ?_
          refine AW.loop (fun n T hh => ∃ (j : Nat) (v : V), j ≤ (blockersF s ((attackersF s).getD k 0)).length ∧ n = (blockersF s ((attackersF s).getD k 0)).length - j ∧ T = put (put (put (put (put (put (put (put (put (put (put (put (T0) 69 (V.int .i64 (j : Nat))) 68 (V.int .i64 (blockersF s ((attackersF s).getD k 0)).length)) 67 (eInts (blockersF s ((attackersF s).getD k 0)))) 10 (V.int .i64 (hitUp s ((attackersF s).getD k 0) (blockersF s ((attackersF s).getD k 0)) j).2)) 7 (eInts (blockersF s ((attackersF s).getD k 0)))) 6 (V.int .i64 ((attackersF s).getD k 0))) 30 (V.int .i64 (k : Nat))) 29 (V.int .i64 (attackersF s).length)) 28 (eInts (attackersF s))) 4 (V.int .i64 (foeAt s))) 3 (v)) 1 (V.iptr (cState s)) ∧ Go.AV.Acc h 3 (rFront s k ((attackersF s).getD k 0) (blockersF s ((attackersF s).getD k 0)) j).length (cHits (rFront s k ((attackersF s).getD k 0) (blockersF s ((attackersF s).getD k 0)) j)) v hh) ((blockersF s ((attackersF s).getD k 0)).length) ?_ ?_
          · skip
            refine Wk.mk (TLe.put (d := 1) (VLe.refl _) (TLe.put (d := 3) (VLe.refl _) (TLe.put (d := 4) (VLe.refl _) (TLe.put (d := 28) (VLe.refl _) (TLe.put (d := 29) (VLe.refl _) (TLe.put (d := 30) (VLe.refl _) (TLe.put (d := 6) (VLe.refl _) (TLe.put (d := 7) (VLe.refl _) (TLe.put (d := 10) (VLe.of_eq (congrArg (V.int .i64) (pow_right hA))) (TLe.put (d := 67) (VLe.refl _) (TLe.put (d := 68) (VLe.refl _) (TLe.put (d := 69) (by exact VLe.of_eq (congrArg (V.int .i64) (by first | rfl | omega))) (TLe.zero _))))))))))))) (HLe.refl _) ⟨0, _, Nat.zero_le _, rfl, rfl, by rw [show rFront s k ((attackersF s).getD k 0) (blockersF s ((attackersF s).getD k 0)) 0 = rOut s k by simp [rFront, hitUp]]; exact hem⟩
          · skip
            rintro n T h' ⟨j, v, hj, rfl, rfl, hem2⟩
            refine .seq <|
              .region <|
              .ql rfl rfl rfl <|
              .nil <|
              .seq ?_
            refine AW.cond rfl (fun c4 => ?_) (fun c4 => ?_)
            · have hltj : j < (blockersF s ((attackersF s).getD k 0)).length := by have := of_decide_eq_true c4; omega
              have hB := hbm j hltj
              have hBi := is_in hB
              have hat : atF ((blockersF s ((attackersF s).getD k 0)).getD j 0) = (blockersF s ((attackersF s).getD k 0)).getD j 0 + 1 := by rw [atF, if_neg]; omega
              have hub := hitUp_bd (a := ((attackersF s).getD k 0)) (bl := (blockersF s ((attackersF s).getD k 0))) (hl 8) j
              have htk := takes_bd (s := s) (a := ((attackersF s).getD k 0)) (bl := (blockersF s ((attackersF s).getD k 0))) (k := j) hub.1
              have hobB := of_bd (i := (blockersF s ((attackersF s).getD k 0)).getD j 0) (hl 8) (by rw [of_right hB])
              have h6 : 0 ≤ s.objs.getD ((blockersF s ((attackersF s).getD k 0)).getD j 0).toNat noObj 6 ∧ s.objs.getD ((blockersF s ((attackersF s).getD k 0)).getD j 0).toNat noObj 6 ≤ 1073741824 := right_obj (right_parts hc0).2.1 (by omega) 6 (by decide)
              have hul := (up_len hltk hl8 hal hbl (a := ((attackersF s).getD k 0)) (j := j) (q := 0) (by omega) (by omega)).1
              refine AW.skip ?_
              refine .seq <|
                .block <|
                .seq <|
                .region <|
                .mI rfl rfl ?_
              refine .u rfl rfl rfl (q_ia_s rfl underlying23 sizeOf3 rfl rfl (by omega) (by omega) (cInts_at hltj)) ?_
              refine .li rfl isAgg3 rfl rfl <|
                .aI rfl rfl <|
                .aI rfl rfl <|
                .nil <|
                .seq <|
                .region <|
                .mI rfl rfl <|
                .aI rfl rfl <|
                .nil ?_
              refine AW.cut (fun T h1 => T = put (put (put (put (put (put (put (put (put (put (put (put (put (put (put (T0) 1 (V.iptr (cState s))) 3 (v)) 4 (V.int .i64 (foeAt s))) 28 (eInts (attackersF s))) 29 (V.int .i64 (attackersF s).length)) 30 (V.int .i64 (k : Nat))) 6 (V.int .i64 ((attackersF s).getD k 0))) 7 (eInts (blockersF s ((attackersF s).getD k 0)))) 10 (V.int .i64 (hitUp s ((attackersF s).getD k 0) (blockersF s ((attackersF s).getD k 0)) j).2)) 67 (eInts (blockersF s ((attackersF s).getD k 0)))) 68 (V.int .i64 (blockersF s ((attackersF s).getD k 0)).length)) 69 (V.int .i64 (j : Nat))) 11 (V.int .i64 (j : Nat))) 12 (V.int .i64 ((blockersF s ((attackersF s).getD k 0)).getD j 0))) 13 (V.int .i64 (takesF s ((attackersF s).getD k 0) (blockersF s ((attackersF s).getD k 0)) j (hitUp s ((attackersF s).getD k 0) (blockersF s ((attackersF s).getD k 0)) j).2)) ∧ h' = h1) ?_ ?_
              · skip
                refine .seq <|
                  .region <|
                  .lw rfl isAgg29 sizeOf29 rfl rfl <|
                  .mI rfl rfl ?_
                refine .u rfl rfl rfl (QOp.call rfl call38 fun h' hl' => by exact word_calls s ((attackersF s).getD k 0) 64 (k := 6) rfl (by decide) hA hb hl h') ?_
                refine .mB rfl rfl ?_
                refine .gf rfl rfl rfl (fun _ => tl0) (fun hc => q_mv rfl (rfl : _ = V.int _ _)) ?_
                refine .gf rfl rfl rfl (fun hc => tl1 79 (.opt hc)) (fun hc => q_add' rfl rfl rfl (by omega)) ?_
                refine .gf rfl rfl rfl (fun _ => tl0) (fun hc => q_mv rfl (rfl : _ = V.sl _ _ _ _)) ?_
                refine .gf rfl rfl rfl (fun hc => tl1 81 (.opt hc)) (fun hc => q_len rfl underlying23 rfl) ?_
                refine .gf rfl rfl rfl (fun hc => tl2 82 80 (.opt hc) (.opt hc)) (fun hc => q_lt rfl rfl rfl) ?_
                refine .pf rfl rfl rfl rfl <|
                  .nil ?_
                refine AW.cond rfl (fun c5 => ?_) (fun c5 => ?_)
                · skip
                  refine .seq ?_
                  refine AW.draw [] [] [(0, true), (1, true), (2, true), (3, true), (4, true), (5, true), (6, true), (7, true), (8, true), (9, true), (10, true), (11, true), (12, true)] mixed (by kernel_rfl) rfl (by kernel_rfl) ?_
                  refine .q rfl rfl rfl rfl (q_load_iW rfl isAgg29 sizeOf29 rfl (by rfl)) ?_
                  refine .q rfl rfl rfl rfl (q_mv rfl (rfl : _ = V.int _ _)) ?_
                  refine .q rfl rfl rfl rfl (QOp.call rfl (by exact call37) fun h' hl' => by exact rof_calls s ((blockersF s ((attackersF s).getD k 0)).getD j 0) hB hb hl h') ?_
                  refine .q rfl rfl rfl rfl (q_f1 rfl underlying64 rfl (by exact isAgg3) rfl rfl) ?_
                  refine .q rfl rfl rfl rfl (q_fa_i rfl underlying29 rfl (by exact sizeOf22) (by decide) rfl (rfl : _ = List.drop 0 _)) ?_
                  refine .q rfl rfl rfl rfl (q_load_i1 rfl isAgg22 rfl rfl) ?_
                  refine .q rfl rfl rfl rfl (q_mv rfl (rfl : _ = V.int _ _)) ?_
                  refine .q rfl rfl rfl rfl (q_ia_s rfl underlying22 sizeOf58 rfl rfl (is_in hB).1 (is_in hB).2 (cObjs_elem' (is_in hB).1 (is_in hB).2)) ?_
                  refine .q rfl rfl rfl rfl (q_ia_ai rfl underlying58 sizeOf3 rfl rfl (by decide) (by decide) rfl) ?_
                  refine .q rfl rfl rfl rfl (q_load_i1 rfl isAgg3 rfl rfl) ?_
                  refine .q rfl rfl rfl rfl (q_sub' rfl rfl rfl (by omega)) ?_
                  refine .q rfl rfl rfl rfl (q_max rfl rfl rfl) ?_
                  refine .q rfl rfl rfl rfl (q_as rfl (rfl : _ = V.int _ _)) ?_
                  refine AOrd.nil ?_
                  refine .seq <|
                    .seq <|
                    .region <|
                    .lw rfl isAgg29 sizeOf29 rfl rfl <|
                    .mI rfl rfl ?_
                  refine .u rfl rfl rfl (QOp.call rfl call38 fun h' hl' => by exact word_calls s ((attackersF s).getD k 0) 16 (k := 4) rfl (by decide) hA hb hl h') ?_
                  refine .nil ?_
                  refine AW.cond rfl (fun c6 => ?_) (fun c6 => ?_)
                  · skip
                    refine .region <|
                      .aI rfl rfl <|
                      .nil <|
                      .region <|
                      .mI rfl rfl <|
                      .mI rfl rfl ?_
                    refine .u rfl rfl rfl (q_min rfl rfl rfl) ?_
                    refine .aI rfl rfl <|
                      .nil ?_
                    exact Wk.mk (TLe.put (d := 13) (VLe.of_eq (congrArg (V.int .i64) (by first | exact rtakes_no c5 | (rw [rtakes_yes c5, needs_16 c6]; done) | (rw [rtakes_yes c5, ← needs_right hB c6]; done)))) (TLe.put (d := 12) (VLe.refl _) (TLe.put (d := 11) (VLe.refl _) (TLe.put (d := 69) (VLe.refl _) (TLe.put (d := 68) (VLe.refl _) (TLe.put (d := 67) (VLe.refl _) (TLe.put (d := 10) (VLe.refl _) (TLe.put (d := 7) (VLe.refl _) (TLe.put (d := 6) (VLe.refl _) (TLe.put (d := 30) (VLe.refl _) (TLe.put (d := 29) (VLe.refl _) (TLe.put (d := 28) (VLe.refl _) (TLe.put (d := 4) (VLe.refl _) (TLe.put (d := 3) (VLe.refl _) (TLe.put (d := 1) (VLe.refl _) (TLe.zero _)))))))))))))))) (HLe.refl _) ⟨rfl, rfl⟩
                  · skip
                    refine AW.skip ?_
                    refine .region <|
                      .mI rfl rfl <|
                      .mI rfl rfl ?_
                    refine .u rfl rfl rfl (q_min rfl rfl rfl) ?_
                    refine .aI rfl rfl <|
                      .nil ?_
                    exact Wk.mk (TLe.put (d := 13) (VLe.of_eq (congrArg (V.int .i64) (by first | exact rtakes_no c5 | (rw [rtakes_yes c5, needs_16 c6]; done) | (rw [rtakes_yes c5, ← needs_right hB c6]; done)))) (TLe.put (d := 12) (VLe.refl _) (TLe.put (d := 11) (VLe.refl _) (TLe.put (d := 69) (VLe.refl _) (TLe.put (d := 68) (VLe.refl _) (TLe.put (d := 67) (VLe.refl _) (TLe.put (d := 10) (VLe.refl _) (TLe.put (d := 7) (VLe.refl _) (TLe.put (d := 6) (VLe.refl _) (TLe.put (d := 30) (VLe.refl _) (TLe.put (d := 29) (VLe.refl _) (TLe.put (d := 28) (VLe.refl _) (TLe.put (d := 4) (VLe.refl _) (TLe.put (d := 3) (VLe.refl _) (TLe.put (d := 1) (VLe.refl _) (TLe.zero _)))))))))))))))) (HLe.refl _) ⟨rfl, rfl⟩
                · skip
                  refine AW.skip ?_
                  exact Wk.mk (TLe.put (d := 13) (VLe.of_eq (congrArg (V.int .i64) (by first | exact rtakes_no c5 | (rw [rtakes_yes c5, needs_16 c6]; done) | (rw [rtakes_yes c5, ← needs_right hB c6]; done)))) (TLe.put (d := 12) (VLe.refl _) (TLe.put (d := 11) (VLe.refl _) (TLe.put (d := 69) (VLe.refl _) (TLe.put (d := 68) (VLe.refl _) (TLe.put (d := 67) (VLe.refl _) (TLe.put (d := 10) (VLe.refl _) (TLe.put (d := 7) (VLe.refl _) (TLe.put (d := 6) (VLe.refl _) (TLe.put (d := 30) (VLe.refl _) (TLe.put (d := 29) (VLe.refl _) (TLe.put (d := 28) (VLe.refl _) (TLe.put (d := 4) (VLe.refl _) (TLe.put (d := 3) (VLe.refl _) (TLe.put (d := 1) (VLe.refl _) (TLe.zero _)))))))))))))))) (HLe.refl _) ⟨rfl, rfl⟩
              · rintro T h1 ⟨rfl, rfl⟩
                refine .seq <|
                  .region <|
                  .mI rfl rfl <|
                  .mI rfl rfl ?_
                refine .u rfl rfl rfl (q_sub' rfl rfl rfl (by omega)) ?_
                refine .aI rfl rfl <|
                  .nil <|
                  .seq <|
                  .region <|
                  .mI rfl rfl ?_
                refine .u rfl rfl rfl (q_gt rfl rfl rfl) ?_
                refine .nil ?_
                refine AW.cond rfl (fun c7 => ?_) (fun c7 => ?_)
                · skip
                  refine .region ?_
                  refine .u rfl rfl rfl (q_mv rfl (rfl : _ = _)) ?_
                  refine .mI rfl rfl <|
                    .mI rfl rfl <|
                    .ad rfl rfl rfl (by omega) <|
                    .mI rfl rfl ?_
                  refine .u rfl rfl rfl (q_buildS (ds := cHit ⟨((attackersF s).getD k 0), (blockersF s ((attackersF s).getD k 0)).getD j 0 + 1, takesF s ((attackersF s).getD k 0) (blockersF s ((attackersF s).getD k 0)) j (hitUp s ((attackersF s).getD k 0) (blockersF s ((attackersF s).getD k 0)) j).2⟩) rfl zeroValue41 underlying41 (pl41 underlying41) rfl (by kernel_rfl)) ?_
                  refine .u rfl rfl rfl (q_buildSl (ds := cHit ⟨((attackersF s).getD k 0), (blockersF s ((attackersF s).getD k 0)).getD j 0 + 1, takesF s ((attackersF s).getD k 0) (blockersF s ((attackersF s).getD k 0)) j (hitUp s ((attackersF s).getD k 0) (blockersF s ((attackersF s).getD k 0)) j).2⟩) rfl underlying34 sizeOf41 zeroValue41 rfl rfl rfl rfl (by kernel_rfl)) ?_
                  refine AOps.s rfl rfl rfl (a_append rfl underlying34 (i := t41) (by kernel_rfl) rfl (n := 3) (by' := 24) rfl rfl rfl rfl hem2 rfl rfl (by decide) (by omega) (by omega) rfl (fun v2 h2 acc => ?_))
                  refine .u rfl rfl rfl (q_as rfl (rfl : _ = _)) ?_
                  refine .nil <|
                    .region <|
                    .ad rfl rfl rfl (by omega) <|
                    .mI rfl rfl <|
                    .nil ?_
                  refine Wk.mk (TLe.put (d := 1) (VLe.refl _) (TLe.put (d := 3) (VLe.refl _) (TLe.put (d := 4) (VLe.refl _) (TLe.put (d := 28) (VLe.refl _) (TLe.put (d := 29) (VLe.refl _) (TLe.put (d := 30) (VLe.refl _) (TLe.put (d := 6) (VLe.refl _) (TLe.put (d := 7) (VLe.refl _) (TLe.put (d := 10) (VLe.refl _) (TLe.put (d := 67) (VLe.refl _) (TLe.put (d := 68) (VLe.refl _) (TLe.put (d := 69) (by exact VLe.of_eq (congrArg (V.int .i64) (by first | rfl | omega))) (TLe.zero _))))))))))))) (HLe.refl _) ⟨_, ?_, j + 1, _, ?_, rfl, rfl, by first | (rw [rFront_yes (by simpa using c7), cHits_app, List.length_append, hat]; exact acc) | (rw [rFront_no (by have := of_decide_eq_false c7; omega)]; exact hem2)⟩
                  · omega
                  · omega
                · skip
                  refine AW.skip ?_
                  refine .region <|
                    .ad rfl rfl rfl (by omega) <|
                    .mI rfl rfl <|
                    .nil ?_
                  refine Wk.mk (TLe.put (d := 1) (VLe.refl _) (TLe.put (d := 3) (VLe.refl _) (TLe.put (d := 4) (VLe.refl _) (TLe.put (d := 28) (VLe.refl _) (TLe.put (d := 29) (VLe.refl _) (TLe.put (d := 30) (VLe.refl _) (TLe.put (d := 6) (VLe.refl _) (TLe.put (d := 7) (VLe.refl _) (TLe.put (d := 10) (VLe.refl _) (TLe.put (d := 67) (VLe.refl _) (TLe.put (d := 68) (VLe.refl _) (TLe.put (d := 69) (by exact VLe.of_eq (congrArg (V.int .i64) (by first | rfl | omega))) (TLe.zero _))))))))))))) (HLe.refl _) ⟨_, ?_, j + 1, _, ?_, rfl, rfl, by first | (rw [rFront_yes (by simpa using c7), cHits_app, List.length_append, hat]; exact acc) | (rw [rFront_no (by have := of_decide_eq_false c7; omega)]; exact hem2)⟩
                  · omega
                  · omega
            · obtain rfl : j = (blockersF s ((attackersF s).getD k 0)).length := by have := of_decide_eq_false c4; omega
              have hub := hitUp_bd (a := ((attackersF s).getD k 0)) (bl := (blockersF s ((attackersF s).getD k 0))) (hl 8) (blockersF s ((attackersF s).getD k 0)).length
              have hul := (up_len hltk hl8 hal hbl (a := ((attackersF s).getD k 0)) (j := (blockersF s ((attackersF s).getD k 0)).length) (q := 0) (by omega) (by omega)).1
              refine AW.exit ?_
              refine AW.cut (fun T h1 => ∃ v1, T = put (put (put (put (put (put (put (put (T0) 1 (V.iptr (cState s))) 3 (v1)) 4 (V.int .i64 (foeAt s))) 28 (eInts (attackersF s))) 29 (V.int .i64 (attackersF s).length)) 30 (V.int .i64 (k : Nat))) 6 (V.int .i64 ((attackersF s).getD k 0))) 7 (eInts (blockersF s ((attackersF s).getD k 0))) ∧ Go.AV.Acc h 3 (rMid s k ((attackersF s).getD k 0) (blockersF s ((attackersF s).getD k 0))).length (cHits (rMid s k ((attackersF s).getD k 0) (blockersF s ((attackersF s).getD k 0)))) v1 h1) ?_ ?_
              · skip
                refine .seq <|
                  .region <|
                  .mI rfl rfl ?_
                refine .u rfl rfl rfl (q_gt rfl rfl rfl) ?_
                refine .mB rfl rfl ?_
                refine .gt rfl rfl rfl (fun _ => tl0) (fun hc => q_mv rfl (rfl : _ = V.sl _ _ _ _)) ?_
                refine .gt rfl rfl rfl (fun hc => tl1 120 (.opt hc)) (fun hc => q_len rfl underlying23 rfl) ?_
                refine .gt rfl rfl rfl (fun hc => tl1 121 (.opt hc)) (fun hc => q_eq rfl rfl rfl) ?_
                refine .gt rfl rfl rfl (fun hc => tl1 122 (.opt hc)) (fun hc => q_mv rfl (rfl : _ = V.bool _)) ?_
                refine AOps.g (wanted_fo rfl rfl) rfl rfl (fun _ => tl0) (fun hc => q_load_iW rfl isAgg29 sizeOf29 rfl (by rfl)) ?_
                refine AOps.g (wanted_fo rfl rfl) rfl rfl (fun _ => tl0) (fun hc => q_mv rfl (rfl : _ = V.int _ _)) ?_
                refine AOps.g (wanted_fo rfl rfl) rfl rfl (fun hc => tl2 125 124 (.opt hc) (.opt hc)) (fun hc => QOp.call rfl (by exact call38) fun h' hl' => by exact word_calls s ((attackersF s).getD k 0) 64 (k := 6) rfl (by decide) hA hb hl h') ?_
                refine .gt rfl rfl rfl (fun hc => tl1 123 (.opt hc)) (fun hc => q_pickg rfl rfl (fun hp => by exact VLe.refl _) (fun hp => by first | exact VLe.opt hp | exact VLe.opt (by rw [hp]; rfl) | exact VLe.opt (by simp_all))) ?_
                refine .pt rfl rfl rfl rfl <|
                  .nil ?_
                refine AW.cond rfl (fun c8 => ?_) (fun c8 => ?_)
                · skip
                  refine .region ?_
                  refine .u rfl rfl rfl (q_mv rfl (rfl : _ = _)) ?_
                  refine .mI rfl rfl <|
                    .mI rfl rfl <|
                    .mI rfl rfl ?_
                  refine .u rfl rfl rfl (q_buildS (ds := cHit ⟨((attackersF s).getD k 0), foeAt s, (hitUp s ((attackersF s).getD k 0) (blockersF s ((attackersF s).getD k 0)) (blockersF s ((attackersF s).getD k 0)).length).2⟩) rfl zeroValue41 underlying41 (pl41 underlying41) rfl (by kernel_rfl)) ?_
                  refine .u rfl rfl rfl (q_buildSl (ds := cHit ⟨((attackersF s).getD k 0), foeAt s, (hitUp s ((attackersF s).getD k 0) (blockersF s ((attackersF s).getD k 0)) (blockersF s ((attackersF s).getD k 0)).length).2⟩) rfl underlying34 sizeOf41 zeroValue41 rfl rfl rfl rfl (by kernel_rfl)) ?_
                  refine AOps.s rfl rfl rfl (a_append rfl underlying34 (i := t41) (by kernel_rfl) rfl (n := 3) (by' := 24) rfl rfl rfl rfl hem2 rfl rfl (by decide) (by omega) (by omega) rfl (fun v2 h2 acc => ?_))
                  refine .u rfl rfl rfl (q_as rfl (rfl : _ = _)) ?_
                  refine .nil ?_
                  exact Wk.mk (TLe.put (d := 7) (VLe.refl _) (TLe.put (d := 6) (VLe.refl _) (TLe.put (d := 30) (VLe.refl _) (TLe.put (d := 29) (VLe.refl _) (TLe.put (d := 28) (VLe.refl _) (TLe.put (d := 4) (VLe.refl _) (TLe.put (d := 3) (VLe.refl _) (TLe.put (d := 1) (VLe.refl _) (TLe.zero _))))))))) (HLe.refl _) ⟨_, rfl, by first | (rw [rMid_yes (mid_c c8).1 (mid_c c8).2, cHits_app, List.length_append]; exact acc) | (rw [rMid_no (mid_n hub.1 c8)]; exact hem2)⟩
                · skip
                  refine AW.skip ?_
                  exact Wk.mk (TLe.put (d := 7) (VLe.refl _) (TLe.put (d := 6) (VLe.refl _) (TLe.put (d := 30) (VLe.refl _) (TLe.put (d := 29) (VLe.refl _) (TLe.put (d := 28) (VLe.refl _) (TLe.put (d := 4) (VLe.refl _) (TLe.put (d := 3) (VLe.refl _) (TLe.put (d := 1) (VLe.refl _) (TLe.zero _))))))))) (HLe.refl _) ⟨_, rfl, by first | (rw [rMid_yes (mid_c c8).1 (mid_c c8).2, cHits_app, List.length_append]; exact acc) | (rw [rMid_no (mid_n hub.1 c8)]; exact hem2)⟩
              · rintro T h1 ⟨v1, rfl, hem3⟩
                refine .seq <|
                  .region <|
                  .mS rfl rfl <|
                  .ln rfl underlying23 rfl <|
                  .mI rfl rfl <|
                  .nil <|
                  .block ?_
                refine AW.loop (fun n T hh => ∃ (q : Nat) (v : V), q ≤ (blockersF s ((attackersF s).getD k 0)).length ∧ n = (blockersF s ((attackersF s).getD k 0)).length - q ∧ T = put (put (put (put (put (put (put (put (put (put (put (T0) 138 (V.int .i64 (q : Nat))) 137 (V.int .i64 (blockersF s ((attackersF s).getD k 0)).length)) 136 (eInts (blockersF s ((attackersF s).getD k 0)))) 7 (eInts (blockersF s ((attackersF s).getD k 0)))) 6 (V.int .i64 ((attackersF s).getD k 0))) 30 (V.int .i64 (k : Nat))) 29 (V.int .i64 (attackersF s).length)) 28 (eInts (attackersF s))) 4 (V.int .i64 (foeAt s))) 3 (v)) 1 (V.iptr (cState s)) ∧ Go.AV.Acc h 3 (rBack s k ((attackersF s).getD k 0) (blockersF s ((attackersF s).getD k 0)) q).length (cHits (rBack s k ((attackersF s).getD k 0) (blockersF s ((attackersF s).getD k 0)) q)) v hh) ((blockersF s ((attackersF s).getD k 0)).length) ?_ ?_
                · skip
                  refine Wk.mk (TLe.put (d := 1) (VLe.refl _) (TLe.put (d := 3) (VLe.refl _) (TLe.put (d := 4) (VLe.refl _) (TLe.put (d := 28) (VLe.refl _) (TLe.put (d := 29) (VLe.refl _) (TLe.put (d := 30) (VLe.refl _) (TLe.put (d := 6) (VLe.refl _) (TLe.put (d := 7) (VLe.refl _) (TLe.put (d := 136) (VLe.refl _) (TLe.put (d := 137) (VLe.refl _) (TLe.put (d := 138) (by exact VLe.of_eq (congrArg (V.int .i64) (by first | rfl | omega))) (TLe.zero _)))))))))))) (HLe.refl _) ⟨0, _, Nat.zero_le _, rfl, rfl, by rw [show rBack s k ((attackersF s).getD k 0) (blockersF s ((attackersF s).getD k 0)) 0 = rMid s k ((attackersF s).getD k 0) (blockersF s ((attackersF s).getD k 0)) by simp [rBack, hitBack]]; exact hem3⟩
                · skip
                  rintro n T h' ⟨q, v, hq, rfl, rfl, hem4⟩
                  refine .seq <|
                    .region <|
                    .ql rfl rfl rfl <|
                    .nil <|
                    .seq ?_
                  refine AW.cond rfl (fun c9 => ?_) (fun c9 => ?_)
                  · have hltq : q < (blockersF s ((attackersF s).getD k 0)).length := by have := of_decide_eq_true c9; omega
                    have hB := hbm q hltq
                    have hatA : atF ((attackersF s).getD k 0) = ((attackersF s).getD k 0) + 1 := by rw [atF, if_neg]; omega
                    have hul := (up_len hltk hl8 hal hbl (a := ((attackersF s).getD k 0)) (j := 0) (q := q) (by omega) (by omega)).2.2
                    refine AW.skip ?_
                    refine .seq <|
                      .block <|
                      .seq <|
                      .region ?_
                    refine .u rfl rfl rfl (q_ia_s rfl underlying23 sizeOf3 rfl rfl (by omega) (by omega) (cInts_at hltq)) ?_
                    refine .li rfl isAgg3 rfl rfl <|
                      .aI rfl rfl <|
                      .nil <|
                      .seq <|
                      .region <|
                      .lw rfl isAgg29 sizeOf29 rfl rfl <|
                      .mI rfl rfl ?_
                    refine .u rfl rfl rfl (QOp.call rfl call37 fun h' hl' => by exact rof_calls s ((blockersF s ((attackersF s).getD k 0)).getD q 0) hB hb hl h') ?_
                    refine .u rfl rfl rfl (q_f1 rfl underlying64 rfl (by exact isAgg3) rfl rfl) ?_
                    refine .aI rfl rfl <|
                      .nil <|
                      .seq <|
                      .region <|
                      .mI rfl rfl ?_
                    refine .u rfl rfl rfl (q_gt rfl rfl rfl) ?_
                    refine .nil ?_
                    refine AW.cond rfl (fun c10 => ?_) (fun c10 => ?_)
                    · skip
                      refine .region ?_
                      refine .u rfl rfl rfl (q_mv rfl (rfl : _ = _)) ?_
                      refine .mI rfl rfl <|
                        .mI rfl rfl <|
                        .ad rfl rfl rfl (by omega) <|
                        .mI rfl rfl ?_
                      refine .u rfl rfl rfl (q_buildS (ds := cHit ⟨(blockersF s ((attackersF s).getD k 0)).getD q 0, ((attackersF s).getD k 0) + 1, (ofF s ((blockersF s ((attackersF s).getD k 0)).getD q 0)).1.p⟩) rfl zeroValue41 underlying41 (pl41 underlying41) rfl (by kernel_rfl)) ?_
                      refine .u rfl rfl rfl (q_buildSl (ds := cHit ⟨(blockersF s ((attackersF s).getD k 0)).getD q 0, ((attackersF s).getD k 0) + 1, (ofF s ((blockersF s ((attackersF s).getD k 0)).getD q 0)).1.p⟩) rfl underlying34 sizeOf41 zeroValue41 rfl rfl rfl rfl (by kernel_rfl)) ?_
                      refine AOps.s rfl rfl rfl (a_append rfl underlying34 (i := t41) (by kernel_rfl) rfl (n := 3) (by' := 24) rfl rfl rfl rfl hem4 rfl rfl (by decide) (by omega) (by omega) rfl (fun v2 h2 acc => ?_))
                      refine .u rfl rfl rfl (q_as rfl (rfl : _ = _)) ?_
                      refine .nil <|
                        .region <|
                        .ad rfl rfl rfl (by omega) <|
                        .mI rfl rfl <|
                        .nil ?_
                      refine Wk.mk (TLe.put (d := 1) (VLe.refl _) (TLe.put (d := 3) (VLe.refl _) (TLe.put (d := 4) (VLe.refl _) (TLe.put (d := 28) (VLe.refl _) (TLe.put (d := 29) (VLe.refl _) (TLe.put (d := 30) (VLe.refl _) (TLe.put (d := 6) (VLe.refl _) (TLe.put (d := 7) (VLe.refl _) (TLe.put (d := 136) (VLe.refl _) (TLe.put (d := 137) (VLe.refl _) (TLe.put (d := 138) (by exact VLe.of_eq (congrArg (V.int .i64) (by first | rfl | omega))) (TLe.zero _)))))))))))) (HLe.refl _) ⟨_, ?_, q + 1, _, ?_, rfl, rfl, by first | (rw [rBack_yes (by rw [← pow_right hB]; have := of_decide_eq_true c10; omega), cHits_app, List.length_append, hatA, show powerF s ((blockersF s ((attackersF s).getD k 0)).getD q 0) = (ofF s ((blockersF s ((attackersF s).getD k 0)).getD q 0)).1.p by rw [← pow_right hB]; have := of_decide_eq_true c10; omega]; exact acc) | (rw [rBack_no (by rw [← pow_right hB]; have := of_decide_eq_false c10; omega)]; exact hem4)⟩
                      · omega
                      · omega
                    · skip
                      refine AW.skip ?_
                      refine .region <|
                        .ad rfl rfl rfl (by omega) <|
                        .mI rfl rfl <|
                        .nil ?_
                      refine Wk.mk (TLe.put (d := 1) (VLe.refl _) (TLe.put (d := 3) (VLe.refl _) (TLe.put (d := 4) (VLe.refl _) (TLe.put (d := 28) (VLe.refl _) (TLe.put (d := 29) (VLe.refl _) (TLe.put (d := 30) (VLe.refl _) (TLe.put (d := 6) (VLe.refl _) (TLe.put (d := 7) (VLe.refl _) (TLe.put (d := 136) (VLe.refl _) (TLe.put (d := 137) (VLe.refl _) (TLe.put (d := 138) (by exact VLe.of_eq (congrArg (V.int .i64) (by first | rfl | omega))) (TLe.zero _)))))))))))) (HLe.refl _) ⟨_, ?_, q + 1, _, ?_, rfl, rfl, by first | (rw [rBack_yes (by rw [← pow_right hB]; have := of_decide_eq_true c10; omega), cHits_app, List.length_append, hatA, show powerF s ((blockersF s ((attackersF s).getD k 0)).getD q 0) = (ofF s ((blockersF s ((attackersF s).getD k 0)).getD q 0)).1.p by rw [← pow_right hB]; have := of_decide_eq_true c10; omega]; exact acc) | (rw [rBack_no (by rw [← pow_right hB]; have := of_decide_eq_false c10; omega)]; exact hem4)⟩
                      · omega
                      · omega
                  · obtain rfl : q = (blockersF s ((attackersF s).getD k 0)).length := by have := of_decide_eq_false c9; omega
                    refine AW.exit ?_
                    refine .region <|
                      .ad rfl rfl rfl (by omega) <|
                      .mI rfl rfl <|
                      .nil ?_
                    refine Wk.mk (TLe.put (d := 1) (VLe.refl _) (TLe.put (d := 3) (VLe.refl _) (TLe.put (d := 4) (VLe.refl _) (TLe.put (d := 28) (VLe.refl _) (TLe.put (d := 29) (VLe.refl _) (TLe.put (d := 30) (by exact VLe.of_eq (congrArg (V.int .i64) (by first | rfl | omega))) (TLe.zero _))))))) (HLe.refl _) ⟨_, ?_, k + 1, _, ?_, rfl, rfl, by rw [← rBack_all hltk]; exact hem4⟩
                    · omega
                    · omega
      · obtain rfl : k = (attackersF s).length := by have := of_decide_eq_false c1; omega
        rw [show rOut s (attackersF s).length = (allHitsF s).filter liveH by rw [rOut, allHit_all]] at hem
        refine AW.exit ?_
        refine .seq <|
          .region ?_
        refine .u rfl rfl rfl (q_mv rfl (rfl : _ = _)) ?_
        refine .u rfl rfl rfl (q_as rfl (rfl : _ = _)) ?_
        refine .nil ?_
        refine AW.ret ?_
        exact retQ.mk' (.one _) (by rw [strikesF, if_neg (by simpa using hc0)]; exact hem.vle) hem.hle ⟨rfl, rfl⟩

end Go.Proofs.YtijhmlkffkedeaaGreatDoor
/- Walks: the document's emitter: putting; a new one. -/
namespace Go.Proofs.YtijhmlkffkedeaaGreatDoor
open Go Go.AV Go.Proofs.Tryz
set_option maxRecDepth 100000
set_option maxHeartbeats 1000000
theorem fail_zero {m : Em} : m.fail 0 = m := by
  unfold Em.fail; split
  · rename_i h; cases m; simp_all
  · rfl
theorem rdo_pend {g : Em} {x : Ev} : (g.rdo x).pend = g.pend ∧ (g.rdo x).draws = g.draws := by
  unfold Em.rdo; split
  · exact ⟨rfl, rfl⟩
  · split
    · exact ⟨rfl, rfl⟩
    · split <;> exact ⟨rfl, rfl⟩
theorem rset_pend {g : Em} {i f n : Int} : (g.rset i f n).pend = g.pend ∧ (g.rset i f n).draws = g.draws := by
  unfold Em.rset; split
  · split
    · exact ⟨rfl, rfl⟩
    · exact rdo_pend
  · exact rdo_pend
end Go.Proofs.YtijhmlkffkedeaaGreatDoor
/- Walks: the document's rounds; the two emitters, side by side. -/
namespace Go.Proofs.YtijhmlkffkedeaaGreatDoor
open Go Go.AV Go.Proofs.Tryz
set_option maxRecDepth 100000
set_option maxHeartbeats 1000000
theorem rnew_fill {pl : Array (Nat × Nat)} (hpl : pl = #[(0, 37), (37, 1), (38, 1), (39, 1), (40, 1)]) (s : St) (draws : List Int) (e : Int) {cs : List V} (hcs : cs = zState ++ [.snil, .snil, .snil, .int .i64 0]) :
    afill (pl[·]?) cs [(0, eState s), (1, eInts draws), (4, .int .i64 e)] = some (gCells ⟨s, draws, [], [], e⟩ .snil .snil) := by
  subst hpl hcs; rfl
theorem new_some {s : St} {d : List Int} (h : (bif refCheck s == 0 then decide ((d.length : Int) > 4096) else false) = true) : newF s d = ⟨s, d, [], [], 19⟩ := by
  rw [refCheck_eq] at h
  obtain ⟨a, b⟩ := and_bits h
  have a : checkF s = 0 := by simpa using a
  have b : 4096 < (d.length : Int) := by simpa using b
  unfold newF randF Em.fail
  rw [if_pos b, if_pos a]
theorem new_none {s : St} {d : List Int} (h : (bif refCheck s == 0 then decide ((d.length : Int) > 4096) else false) = false) : newF s d = ⟨s, d, [], [], refCheck s⟩ := by
  rw [refCheck_eq] at h ⊢
  unfold newF randF
  split
  · rename_i b
    have b : 4096 < (d.length : Int) := b
    have a : ¬ checkF s = 0 := fun a => by simp [a, b] at h
    unfold Em.fail; rw [if_neg a]
  · exact fail_zero

theorem rnew_calls (s : St) (draws : List Int) (hb : s.objs.length ≤ 1000000) (hl : ∀ z, (s.lists z).length ≤ 1000000) (h : Hp) : ACalls prog G 16 [eState s, eInts draws] h fun r h' => ∃ id, r = .ptr id 0 ∧ GAt h id (newF s draws) h' := by
  refine ACalls.enter func16 rfl ntmps16 results16 rfl ?_
  refine .seq <|
    .region <|
    .bx rfl rfl ?_
  refine .u rfl rfl rfl (q_as rfl (rfl : _ = V.pnil)) ?_
  refine .nil <|
    .seq ?_
  refine AW.draw [] [] [(0, true), (1, true), (2, true), (3, true), (4, true), (5, true), (6, false), (7, true)] mixed (by kernel_rfl) rfl (by kernel_rfl) ?_
  refine .q rfl rfl rfl rfl (q_load_iW rfl isAgg29 sizeOf29 rfl (by rfl)) ?_
  refine .q rfl rfl rfl rfl (QOp.call rfl (by exact call47) fun h' hl' => by exact numCopy_calls s hb hl h') ?_
  refine .q rfl rfl rfl rfl (q_mv rfl (rfl : _ = V.sl _ _ _ _)) ?_
  refine .q rfl rfl rfl rfl (q_load_iW rfl isAgg29 sizeOf29 rfl (by rfl)) ?_
  refine .q rfl rfl rfl rfl (QOp.call rfl (by exact call28) fun h' hl' => by exact refCheck_calls s hb hl h') ?_
  refine .q rfl rfl rfl rfl (q_buildS (ds := gCells ⟨s, draws, [], [], refCheck s⟩ .snil .snil) rfl zeroValue78 underlying78 (pl78 underlying78) rfl (by exact rnew_fill rfl s draws (refCheck s) rfl)) ?_
  refine AOrd.s' rfl rfl rfl (a_boxa rfl (rfl : _ = V.agg _) (fun id12 hid12 => ⟨?_, HLe.setBox hid12.1⟩))
  refine .q rfl rfl rfl rfl (q_as rfl (rfl : _ = V.ptr _ _)) ?_
  refine AOrd.nil ?_
  refine .seq <|
    .seq <|
    .region <|
    .mP rfl rfl <|
    .nP rfl rfl <|
    .fb rfl f78_40 rfl rfl <|
    .lb rfl isAgg3 rfl rfl <|
    .qe rfl rfl rfl <|
    .mB rfl rfl ?_
  refine .gt rfl rfl rfl (fun _ => tl0) (fun hc => q_mv rfl (rfl : _ = V.sl _ _ _ _)) ?_
  refine .gt rfl rfl rfl (fun hc => tl1 19 (.opt hc)) (fun hc => q_len rfl underlying23 rfl) ?_
  refine .gt rfl rfl rfl (fun hc => tl1 20 (.opt hc)) (fun hc => q_gt rfl rfl rfl) ?_
  refine .u rfl rfl rfl ((q_pickg rfl rfl (fun hp => by exact VLe.opt hp) (fun hp => by exact VLe.refl _))) ?_
  refine .nil ?_
  refine AW.cond rfl (fun c0 => ?_) (fun c0 => ?_)
  · skip
    refine .region <|
      .mP rfl rfl <|
      .nP rfl rfl <|
      .fb rfl f78_40 rfl rfl ?_
    refine AOps.s0 rfl rfl (a_store1 rfl sizeOf3 rfl (by exact bsb) (rfl : _ = V.int _ _) rfl rfl (by first | decide | exact Nat.le_of_ble_eq_true rfl) ?_)
    refine .nil <|
      .seq <|
      .region <|
      .mP rfl rfl <|
      .aP rfl rfl <|
      .nil ?_
    refine AW.ret ?_
    exact retQ.mk (.one _) ⟨id12, rfl, .snil, .snil, by rw [new_some c0]; exact ⟨⟨rfl, .inl ⟨rfl, rfl, rfl⟩⟩, ⟨rfl, .inl ⟨rfl, rfl, rfl⟩⟩, trivial, trivial, hid12⟩, by rw [new_some c0, Hp.setBox_setBox]; rfl⟩
  · skip
    refine AW.skip ?_
    refine .seq <|
      .region <|
      .mP rfl rfl <|
      .aP rfl rfl <|
      .nil ?_
    refine AW.ret ?_
    exact retQ.mk (.one _) ⟨id12, rfl, .snil, .snil, by rw [new_none c0]; exact ⟨⟨rfl, .inl ⟨rfl, rfl, rfl⟩⟩, ⟨rfl, .inl ⟨rfl, rfl, rfl⟩⟩, trivial, trivial, hid12⟩, by rw [new_none c0]; rfl⟩

structure Mt (m g : Em) : Prop where
  err : m.err = g.err
  same : m.err = 0 → m = g
theorem Mt.rfl' {m : Em} : Mt m m := ⟨rfl, fun _ => rfl⟩
/-- A step that does nothing behind an error. -/
theorem mt_of {m g m' g' : Em} (h : Mt m g) (hm : m.err ≠ 0 → m' = m) (hg : g.err ≠ 0 → g' = g) (e : m.err = 0 → m = g → Mt m' g') : Mt m' g' := by
  by_cases h0 : m.err = 0
  · exact e h0 (h.same h0)
  · rw [hm h0, hg (by rw [← h.err]; exact h0)]; exact h
theorem rdo_stop {g : Em} {x : Ev} (h : g.err ≠ 0) : g.rdo x = g := by rw [Em.rdo, if_pos h]
theorem mt_do {m g : Em} {x : Ev} (h : Mt m g) : Mt (m.do1 x) (g.rdo x) := by
  refine mt_of h do1_stop rdo_stop fun h0 e => ?_
  subst e
  unfold Em.do1 Em.rdo
  have hz : ¬ m.err ≠ 0 := by simpa using h0
  rw [if_neg hz, if_neg hz]
  by_cases h1 : (evDo m.now x).2 = 0
  · have h1' : ¬ (evDo m.now x).2 ≠ 0 := by simpa using h1
    rw [if_neg h1', if_neg h1']
    have ha : appSt m.now x = (evDo m.now x).1 := by rw [appSt, if_pos h1]
    by_cases h2 : m.evs.length < 65536
    · rw [if_pos h2, if_pos h2, ha]; exact .rfl'
    · rw [if_neg h2, if_neg h2]; exact ⟨rfl, fun e => by cases e⟩
  · have h1' : (evDo m.now x).2 ≠ 0 := h1
    rw [if_pos h1', if_pos h1']; exact ⟨rfl, fun e => absurd e h1⟩
theorem setF_stop {m : Em} {i f n : Int} (h : m.err ≠ 0) : m.setF i f n = m := by rw [Em.setF, if_pos h]
theorem rset_stop {g : Em} {i f n : Int} (h : g.err ≠ 0) : g.rset i f n = g := by
  unfold Em.rset; split
  · split
    · rfl
    · exact rdo_stop h
  · exact rdo_stop h
theorem ec2 {i f c n : Int} : evCheck ⟨2, i, f, c, n, 0⟩ = evCheck ⟨2, i, f, 0, n, 0⟩ := by
  simp [evCheck, evSpare, evMakes, evRanges]
theorem mt_set {m g : Em} {i f n : Int} (h : Mt m g) : Mt (m.setF i f n) (g.rset i f n) := by
  refine mt_of h setF_stop rset_stop fun h0 e => ?_
  subst e
  unfold Em.setF Em.rset
  rw [if_neg (by simpa using h0)]
  by_cases hc : evCheck ⟨2, i, f, 0, n, 0⟩ ≠ 0 ∨ (m.now.objs.length : Int) ≤ i
  · rw [if_pos hc, if_neg (by omega)]; exact mt_do .rfl'
  · rw [if_neg hc, if_pos (by omega)]
    unfold Em.set
    split
    · rw [ec2, show evCheck ⟨2, i, f, 0, n, 0⟩ = 0 by omega, fail_zero]; exact .rfl'
    · exact mt_do .rfl'
theorem mt_err {m : Em} {x y : Ev} {e : Int} (h0 : m.err = 0) (hx : evCheck x = e) (hy : evCheck y = e) (he : e ≠ 0) : Mt (m.do1 x) (m.rdo y) := by
  have e1 : (evDo m.now x).2 = e := by rw [do_bad (by omega)]; exact hx
  have e2 : (evDo m.now y).2 = e := by rw [do_bad (by omega)]; exact hy
  have hz : ¬ m.err ≠ 0 := by simpa using h0
  unfold Em.do1 Em.rdo
  rw [if_neg hz, if_neg hz, e1, e2, if_pos he, if_pos he]
  exact ⟨rfl, fun e => absurd e he⟩
theorem rdo_bad {m : Em} {y : Ev} {e : Int} (h0 : m.err = 0) (hy : evCheck y = e) (he : e ≠ 0) : Mt (m.fail e) (m.rdo y) := by
  have e2 : (evDo m.now y).2 = e := by rw [do_bad (by omega)]; exact hy
  have hz : ¬ m.err ≠ 0 := by simpa using h0
  unfold Em.fail Em.rdo
  rw [if_pos h0, if_neg hz, e2, if_pos he]
  exact ⟨rfl, fun e => absurd e he⟩
def GA (h0 : Hp) (id : Nat) (m : Em) (h : Hp) : Prop := ∃ g, Mt m g ∧ GI g ∧ (g.err = 0 → Sm g.now) ∧ g.pend.length ≤ 400000 ∧ GAt h0 id g h
theorem GA.le {h0 : Hp} {id : Nat} {m : Em} {h : Hp} (e : GA h0 id m h) : HLe h h0 := by
  obtain ⟨_, _, _, _, _, e⟩ := e; exact e.le
theorem err_of_rset {g : Em} {i f n : Int} (e : (g.rset i f n).err = 0) : g.err = 0 := by
  by_cases h : g.err = 0
  · exact h
  · rw [rset_stop h] at e; exact e
theorem ga_set (i f n : Int) {h0 : Hp} {id : Nat} {m : Em} {h : Hp} (he : GA h0 id m h) : ACalls prog G 50 [.ptr id 0, .int .i64 i, .int .i64 f, .int .i64 n] h fun r h' => r = .tup [] ∧ GA h0 id (m.setF i f n) h' := by
  obtain ⟨g, hm, hI, hS, hp, ha⟩ := he
  exact (rset_calls i f n ha hI).mono fun r h' ⟨e, ha'⟩ => ⟨e, _, mt_set hm, rset_inv hI, fun e => rset_sm (hS (err_of_rset e)), by rw [rset_pend.1]; exact hp, ha'⟩
end Go.Proofs.YtijhmlkffkedeaaGreatDoor
/- Walks: the document's emitter: what it gives a player. -/
namespace Go.Proofs.YtijhmlkffkedeaaGreatDoor
open Go Go.AV Go.Proofs.Tryz
set_option maxRecDepth 100000
set_option maxHeartbeats 1000000
def rsum (a b : Int) : Int := max (min (a + max (min b 4294967296) (-4294967296)) 1073741824) (-1073741824)
def Em.rplayer (g : Em) (p f n : Int) : Em :=
  if evCheck ⟨3, p, f, 0, n, 0⟩ = 0 then (if g.now.pl p.toNat f.toNat = n then g else g.rdo ⟨3, p, f, g.now.pl p.toNat f.toNat, n, 0⟩) else g.rdo ⟨3, p, f, 0, n, 0⟩
def Em.rlife (g : Em) (p n : Int) : Em := if (g.err == 0 && isP p) = true then g.rplayer p 0 (rsum (g.now.pl p.toNat 0) n) else g.must (isP p) 1

theorem rgis_calls (p : Int) {h0 : Hp} {id : Nat} {g : Em} {h : Hp} (he : GAt h0 id g h) : ACalls prog G 87 [.ptr id 0, .int .i64 p] h fun r h' => r = .bool (g.err == 0 && isP p) ∧ GAt h0 id (g.must (isP p) 1) h' := by
  obtain ⟨ve, vp, hr, rfl⟩ := he
  refine ACalls.enter func87 rfl ntmps87 results87 rfl ?_
  refine .seq <|
    .region <|
    .aB rfl rfl <|
    .nil <|
    .seq <|
    .seq <|
    .region <|
    .mP rfl rfl <|
    .nP rfl rfl <|
    .fb rfl f78_40 rfl rfl <|
    .lb rfl isAgg3 rfl rfl <|
    .qe rfl rfl rfl <|
    .mB rfl rfl ?_
  refine .gt rfl rfl rfl (fun _ => tl0) (fun hc => q_mv rfl (rfl : _ = V.int _ _)) ?_
  refine .gt rfl rfl rfl (fun hc => tl1 11 (.opt hc)) (fun hc => q_ne rfl rfl rfl) ?_
  refine .pt rfl rfl rfl rfl <|
    .mB rfl rfl ?_
  refine .gt rfl rfl rfl (fun _ => tl0) (fun hc => q_mv rfl (rfl : _ = V.int _ _)) ?_
  refine .gt rfl rfl rfl (fun hc => tl1 15 (.opt hc)) (fun hc => q_ne rfl rfl rfl) ?_
  refine .pt rfl rfl rfl rfl <|
    .nil ?_
  refine AW.cond rfl (fun c0 => ?_) (fun c0 => ?_)
  · have hcc : g.err = 0 ∧ isP p = false := by
      have := and_bits c0; have := and_bits this.1; simp_all [isP]
    refine .region <|
      .mP rfl rfl <|
      .nP rfl rfl <|
      .fb rfl f78_40 rfl rfl ?_
    refine AOps.s0 rfl rfl (a_store1 rfl sizeOf3 rfl (by exact bsb) (rfl : _ = V.int _ _) rfl rfl (by first | decide | exact Nat.le_of_ble_eq_true rfl) ?_)
    refine .nil <|
      .seq <|
      .region <|
      .mP rfl rfl <|
      .nP rfl rfl <|
      .fb rfl f78_40 rfl rfl <|
      .lb rfl isAgg3 rfl rfl <|
      .qe rfl rfl rfl <|
      .aB rfl rfl <|
      .nil ?_
    refine AW.ret ?_
    exact retQ.mk (.one _) ⟨(rfl : _ = V.bool false).trans (congrArg V.bool (by rw [hcc.2]; simp)), ve, vp, ⟨by rw [Em.must, if_pos (by simp [hcc])]; exact hr.ae, by rw [Em.must, if_pos (by simp [hcc])]; exact hr.ap, hr.fp, hr.fe, hr.fi⟩, by rw [Em.must, if_pos (by simp [hcc]), Hp.setBox_setBox]; rfl⟩
  · have hcc : g.err ≠ 0 ∨ isP p = true := by
      by_cases hz : g.err = 0 <;> by_cases h0 : p = 0 <;> by_cases h1 : p = 1 <;> simp_all [isP]
    refine AW.skip ?_
    refine .seq <|
      .region <|
      .mP rfl rfl <|
      .nP rfl rfl <|
      .fb rfl f78_40 rfl rfl <|
      .lb rfl isAgg3 rfl rfl <|
      .qe rfl rfl rfl <|
      .aB rfl rfl <|
      .nil ?_
    refine AW.ret ?_
    exact retQ.mk (.one _) ⟨(rfl : _ = V.bool (g.err == 0)).trans (congrArg V.bool (by rcases hcc with e | e <;> simp [e])), by rw [Em.must, if_neg (by rcases hcc with e | e <;> simp [e])]; exact ⟨ve, vp, hr, rfl⟩⟩

theorem rsum_calls (a b : Int) (ha : -1073741824 ≤ a ∧ a ≤ 1073741824) (h : Hp) : ACalls prog G 89 [.int .i64 a, .int .i64 b, .int .i64 (-1073741824), .int .i64 1073741824] h fun r h' => r = .int .i64 (rsum a b) ∧ h' = h := by
  refine ACalls.enter func89 rfl ntmps89 results89 rfl ?_
  refine .seq <|
    .region <|
    .aI rfl rfl <|
    .nil <|
    .seq <|
    .region <|
    .mI rfl rfl ?_
  refine .u rfl rfl rfl (q_min rfl rfl rfl) ?_
  refine .u rfl rfl rfl (q_max rfl rfl rfl) ?_
  refine .aI rfl rfl <|
    .nil <|
    .seq <|
    .region <|
    .mI rfl rfl <|
    .mI rfl rfl <|
    .ad rfl rfl rfl (by omega) <|
    .mI rfl rfl ?_
  refine .u rfl rfl rfl (q_min rfl rfl rfl) ?_
  refine .mI rfl rfl ?_
  refine .u rfl rfl rfl (q_max rfl rfl rfl) ?_
  refine .aI rfl rfl <|
    .nil ?_
  refine AW.ret ?_
  exact retQ.mk' (.one _) (VLe.of_eq (congrArg (V.int .i64) (rfl))) (HLe.refl _) ⟨rfl, rfl⟩

theorem rplayer_calls (p f n : Int) {h0 : Hp} {id : Nat} {g : Em} {h : Hp} (he : GAt h0 id g h) (hI : GI g) : ACalls prog G 88 [.ptr id 0, .int .i64 p, .int .i64 f, .int .i64 n] h fun r h' => r = .tup [] ∧ GAt h0 id (g.rplayer p f n) h' := by
  obtain ⟨ve, vp, hr, rfl⟩ := he
  refine ACalls.enter func88 rfl ntmps88 results88 rfl ?_
  refine .seq <|
    .region <|
    .mI rfl rfl <|
    .mI rfl rfl <|
    .mI rfl rfl ?_
  refine .u rfl rfl rfl (q_buildS (ds := cEv ⟨3, p, f, 0, n, 0⟩) rfl zeroValue129 underlying129 (pl129 underlying129) rfl (by kernel_rfl)) ?_
  refine AOps.s rfl rfl rfl (a_alloc rfl zeroValue129 rfl (fun id8 hid8 => ?_))
  refine .sw sizeOf129 rfl rfl rfl rfl <|
    .nil <|
    .seq <|
    .seq ?_
  have ne8 : id ≠ id8 := Hp.ne_of_box (Hp.box_setBox _ _ _) hid8.1
  refine .region ?_
  refine .u rfl rfl rfl (q_load_bW rfl isAgg129 sizeOf129 (by decide) rfl (by first | exact Hp.box_setBox _ _ _ | exact (Hp.box_setBox_ne _ _ ne8).trans (Hp.box_setBox _ _ _)) (by rfl)) ?_
  refine .u rfl rfl rfl (QOp.call rfl call90 fun h' hl' => by exact refEv_calls ⟨3, p, f, 0, n, 0⟩ h') ?_
  refine .qe rfl rfl rfl <|
    .nil ?_
  refine AW.cond rfl (fun c0 => ?_) (fun c0 => ?_)
  · have hc : evCheck ⟨3, p, f, 0, n, 0⟩ = 0 := by simpa using c0
    have ok := (evCheck_ok hc).2.2.2.1 rfl
    have ok1 : 0 ≤ p := ok.1
    have ok2 : p < 2 := ok.2.1
    have ok3 : 0 ≤ f := ok.2.2.1
    have ok4 : f < 9 := ok.2.2.2
    refine .seq <|
      .region <|
      .mP rfl rfl <|
      .mI rfl rfl <|
      .mI rfl rfl <|
      .nP rfl rfl <|
      .fb rfl f78_0 rfl rfl <|
      .fb rfl f29_12 rfl rfl ?_
    refine .u rfl rfl rfl (q_ia_ab rfl underlying26 sizeOf25 rfl rfl (by omega) (by omega)) ?_
    refine .u rfl rfl rfl (q_ia_ab rfl underlying25 sizeOf3 rfl rfl (by omega) (by omega)) ?_
    refine .u rfl rfl rfl (q_load_b1 rfl isAgg3 rfl (by first | exact Hp.box_setBox _ _ _ | exact (Hp.box_setBox_ne _ _ ne8).trans (Hp.box_setBox _ _ _)) (st_pl_ix ok1 ok2 ok3 ok4)) ?_
    refine .fb rfl f129_3 rfl rfl ?_
    refine AOps.s0 rfl rfl (a_store1 rfl sizeOf3 rfl (by first | exact Hp.box_setBox _ _ _ | exact (Hp.box_setBox_ne _ _ ne8).trans (Hp.box_setBox _ _ _)) (rfl : _ = V.int _ _) rfl rfl (by first | decide | exact Nat.le_of_ble_eq_true rfl) ?_)
    refine .nil <|
      .seq <|
      .region <|
      .fb rfl f129_3 rfl rfl ?_
    refine .u rfl rfl rfl (q_load_b1 rfl isAgg3 rfl (by first | exact Hp.box_setBox _ _ _ | exact (Hp.box_setBox_ne _ _ ne8).trans (Hp.box_setBox _ _ _)) rfl) ?_
    refine .mI rfl rfl <|
      .qe rfl rfl rfl <|
      .nil ?_
    refine AW.cond rfl (fun c1 => ?_) (fun c1 => ?_)
    · skip
      refine AW.ret ?_
      exact retQ.mk' .none (VLe.refl _) (HLe.over (HLe.setBox hid8.1) hid8.1) ⟨rfl, by rw [Em.rplayer, if_pos hc, if_pos (by simpa using c1)]; exact ⟨ve, vp, hr, rfl⟩⟩
    · skip
      refine AW.skip ?_
      first | (refine AW.hp (h' := ((addTok ve (addTok vp h0)).setBox id (gCells g ve vp)).setBox id8 (cEv ⟨3, p, f, g.now.pl p.toNat f.toNat, n, 0⟩)) (by first | rfl | (rw [Hp.setBox_setBox]; rfl)) ?_; refine AW.done 8 rfl hid8 ?_) | (refine AW.hp (h' := ((addTok ve (addTok vp h0)).setBox id (gCells g ve vp)).setBox id8 (cEv ⟨3, p, f, 0, n, 0⟩)) (by first | rfl | (rw [Hp.setBox_setBox]; rfl)) ?_; refine AW.done 8 rfl hid8 ?_)
      refine .region <|
        .mP rfl rfl <|
        .lw rfl isAgg129 sizeOf129 rfl rfl ?_
      refine AOps.s rfl rfl rfl ((AStep.call rfl (by exact call91) (rdo_calls ⟨3, p, f, _, n, 0⟩ (by simp) ⟨ve, vp, hr, rfl⟩ hI)).mono ?_)
      rintro x3 h3 ⟨rfl, he3⟩
      refine .nil ?_
      exact retQ.mk .none ⟨rfl, by rw [Em.rplayer, if_pos hc, if_neg (by simpa using c1)]; exact he3⟩
  · have hno : ¬ evCheck ⟨3, p, f, 0, n, 0⟩ = 0 := by simpa using c0
    refine AW.skip ?_
    first | (refine AW.hp (h' := ((addTok ve (addTok vp h0)).setBox id (gCells g ve vp)).setBox id8 (cEv ⟨3, p, f, g.now.pl p.toNat f.toNat, n, 0⟩)) (by first | rfl | (rw [Hp.setBox_setBox]; rfl)) ?_; refine AW.done 8 rfl hid8 ?_) | (refine AW.hp (h' := ((addTok ve (addTok vp h0)).setBox id (gCells g ve vp)).setBox id8 (cEv ⟨3, p, f, 0, n, 0⟩)) (by first | rfl | (rw [Hp.setBox_setBox]; rfl)) ?_; refine AW.done 8 rfl hid8 ?_)
    refine .region <|
      .mP rfl rfl <|
      .lw rfl isAgg129 sizeOf129 rfl rfl ?_
    refine AOps.s rfl rfl rfl ((AStep.call rfl (by exact call91) (rdo_calls ⟨3, p, f, _, n, 0⟩ (by simp) ⟨ve, vp, hr, rfl⟩ hI)).mono ?_)
    rintro x3 h3 ⟨rfl, he3⟩
    refine .nil ?_
    exact retQ.mk .none ⟨rfl, by rw [Em.rplayer, if_neg hno]; exact he3⟩

theorem rlife_calls (p n : Int) {h0 : Hp} {id : Nat} {g : Em} {h : Hp} (he : GAt h0 id g h) (hI : GI g) (hS : g.err = 0 → Sm g.now) : ACalls prog G 49 [.ptr id 0, .int .i64 p, .int .i64 n] h fun r h' => r = .tup [] ∧ GAt h0 id (g.rlife p n) h' := by
  refine ACalls.enter func49 rfl ntmps49 results49 rfl ?_
  refine .seq <|
    .region <|
    .mP rfl rfl <|
    .mI rfl rfl ?_
  refine AOps.s rfl rfl rfl ((AStep.call rfl (by exact call87) (rgis_calls p he)).mono ?_)
  rintro x2 h2 ⟨rfl, he2⟩
  refine .nil ?_
  refine AW.cond rfl (fun c0 => ?_) (fun c0 => ?_)
  · obtain ⟨hz, hpp⟩ : g.err = 0 ∧ isP p = true := by simpa using c0
    have hp : 0 ≤ p ∧ p < 2 := by simp [isP] at hpp; omega
    have hsm := (hS hz).p p.toNat (Int.toNat 0) (by omega) (by decide)
    unfold sml at hsm
    rw [Em.must, if_neg (by rw [hpp]; simp)] at he2
    obtain ⟨ve, vp, hr, rfl⟩ := he2
    refine .region <|
      .mP rfl rfl <|
      .mI rfl rfl <|
      .mP rfl rfl <|
      .mI rfl rfl <|
      .nP rfl rfl <|
      .fb rfl f78_0 rfl rfl <|
      .fb rfl f29_12 rfl rfl ?_
    refine .u rfl rfl rfl (q_ia_ab rfl underlying26 sizeOf25 rfl rfl (by omega) (by omega)) ?_
    refine .u rfl rfl rfl (q_ia_ab rfl underlying25 sizeOf3 rfl rfl (by decide) (by decide)) ?_
    refine .u rfl rfl rfl (q_load_b1 rfl isAgg3 rfl (by exact bsb) (st_pl_ix hp.1 hp.2 (by decide) (by decide))) ?_
    refine .mI rfl rfl ?_
    refine .u rfl rfl rfl (QOp.call rfl call89 fun h' hl' => by exact rsum_calls _ n hsm h') ?_
    refine AOps.s rfl rfl rfl ((AStep.call rfl (by exact call88) (rplayer_calls p 0 _ ⟨ve, vp, hr, rfl⟩ hI)).mono ?_)
    rintro x3 h3 ⟨rfl, he3⟩
    refine .nil ?_
    exact retQ.mk .none ⟨rfl, by rw [Em.rlife, if_pos c0]; exact he3⟩
  · skip
    refine AW.skip ?_
    exact retQ.mk .none ⟨rfl, by rw [Em.rlife, if_neg (by rw [c0]; decide)]; exact he2⟩

theorem rplayer_inv {g : Em} {p f n : Int} (h : GI g) : GI (g.rplayer p f n) := by
  unfold Em.rplayer; split
  · split
    · exact h
    · exact rdo_inv (by simp) h
  · exact rdo_inv (by simp) h
theorem must_gi {g : Em} {b : Bool} {e : Int} (h : GI g) : GI (g.must b e) := by
  unfold Em.must; split
  · rename_i e; exact ⟨⟨fun _ => h.inv.sz e.1, h.inv.evs⟩, h.ob, h.ls⟩
  · exact h
theorem rlife_inv {g : Em} {p n : Int} (h : GI g) : GI (g.rlife p n) := by
  unfold Em.rlife; split
  · exact rplayer_inv h
  · exact must_gi h
theorem rplayer_sm {g : Em} {p f n : Int} (h : Sm g.now) : Sm (g.rplayer p f n).now := by
  unfold Em.rplayer; split
  · split
    · exact h
    · exact rdo_sm h
  · exact rdo_sm h
theorem must_now {g : Em} {b : Bool} {e : Int} : (g.must b e).now = g.now ∧ (g.must b e).pend = g.pend := by unfold Em.must; split <;> exact ⟨rfl, rfl⟩
theorem rlife_sm {g : Em} {p n : Int} (h : Sm g.now) : Sm (g.rlife p n).now := by
  unfold Em.rlife; split
  · exact rplayer_sm h
  · rw [must_now.1]; exact h
theorem rplayer_pend {g : Em} {p f n : Int} : (g.rplayer p f n).pend = g.pend := by
  unfold Em.rplayer; split
  · split
    · rfl
    · exact rdo_pend.1
  · exact rdo_pend.1
theorem rlife_pend {g : Em} {p n : Int} : (g.rlife p n).pend = g.pend := by
  unfold Em.rlife; split
  · exact rplayer_pend
  · exact must_now.2
theorem must_stop {g : Em} {b : Bool} {e : Int} (h : g.err ≠ 0) : g.must b e = g := by rw [Em.must, if_neg (fun x => h x.1)]
theorem rlife_stop {g : Em} {p n : Int} (h : g.err ≠ 0) : g.rlife p n = g := by
  unfold Em.rlife
  rw [if_neg (by simp [h]), must_stop h]
theorem lifeF_stop {m : Em} {p n : Int} (h : m.err ≠ 0) : m.lifeF p n = m := by rw [Em.lifeF, if_pos h]
theorem err_of_rlife {g : Em} {p n : Int} (e : (g.rlife p n).err = 0) : g.err = 0 := by
  by_cases h : g.err = 0
  · exact h
  · rw [rlife_stop h] at e; exact e
theorem playerF_stop {m : Em} {p f n : Int} (h : m.err ≠ 0) : m.playerF p f n = m := by rw [Em.playerF, if_pos h]
theorem rplayer_stop {g : Em} {p f n : Int} (h : g.err ≠ 0) : g.rplayer p f n = g := by
  unfold Em.rplayer; split
  · split
    · rfl
    · exact rdo_stop h
  · exact rdo_stop h
theorem ec3 {p f c n : Int} : evCheck ⟨3, p, f, c, n, 0⟩ = if (inN p 2 = true ∧ inN f 9 = true) ∧ small n = true then 0 else 1 := by
  have e1 : evRanges ⟨3, p, f, c, n, 0⟩ = (inN p 2 && inN f 9 && small n) := by simp [evRanges]
  have e2 : evSpare ⟨3, p, f, c, n, 0⟩ = true := by simp [evSpare, evMakes]
  have e3 : inN 3 6 = true := by decide
  unfold evCheck
  rw [e1, e2]
  simp only [e3]
  cases inN p 2 <;> cases inN f 9 <;> cases small n <;> simp
theorem mt_player {m g : Em} {p f n : Int} (h : Mt m g) : Mt (m.playerF p f n) (g.rplayer p f n) := by
  refine mt_of h playerF_stop rplayer_stop fun h0 e => ?_
  subst e
  unfold Em.playerF Em.rplayer
  rw [if_neg (by simpa using h0)]
  by_cases hf : inN p 2 = true ∧ inN f 9 = true
  · have c0 : evCheck ⟨3, p, f, 0, 0, 0⟩ = 0 := by rw [ec3, if_pos ⟨hf, by decide⟩]
    rw [c0, if_neg (by simp)]
    by_cases hn : small n = true
    · have c1 : ∀ c, evCheck ⟨3, p, f, c, n, 0⟩ = 0 := fun c => by rw [ec3, if_pos ⟨hf, hn⟩]
      rw [c1, if_pos rfl]
      unfold Em.set
      split
      · rw [c1, fail_zero]; exact .rfl'
      · exact mt_do .rfl'
    · have c1 : ∀ c, evCheck ⟨3, p, f, c, n, 0⟩ = 1 := fun c => by rw [ec3, if_neg (fun e => hn e.2)]
      rw [c1, if_neg (by decide)]
      unfold Em.set
      split
      · rw [c1]; exact rdo_bad h0 (c1 _) (by decide)
      · exact mt_err h0 (c1 _) (c1 _) (by decide)
  · have c1 : ∀ c n, evCheck ⟨3, p, f, c, n, 0⟩ = 1 := fun c n => by rw [ec3, if_neg (fun e => hf e.1)]
    rw [c1, if_pos (by decide), c1, if_neg (by decide)]
    exact mt_err h0 (c1 _ _) (c1 _ _) (by decide)
theorem mt_life {m g : Em} {p n : Int} (hS : g.err = 0 → Sm g.now) (h : Mt m g) : Mt (m.lifeF p n) (g.rlife p n) := by
  refine mt_of h lifeF_stop rlife_stop fun h0 e => ?_
  subst e
  unfold Em.lifeF Em.rlife
  rw [if_neg (by simpa using h0)]
  by_cases hp : isP p = true
  · have hsm := (hS h0).p p.toNat 0 (by simp [isP] at hp; omega) (by decide)
    unfold sml at hsm
    rw [if_neg (by rw [hp]; decide), if_pos (by simp [h0, hp])]
    have : btw (m.now.pl p.toNat 0 + btw n (-2147483648) 2147483648) (-1073741824) 1073741824 = rsum (m.now.pl p.toNat 0) n := by unfold btw rsum; omega
    rw [this]
    exact mt_player .rfl'
  · have hp : isP p = false := by simpa using hp
    rw [if_pos hp, if_neg (by simp [hp])]
    unfold Em.fail Em.must
    rw [if_pos h0, if_pos (by simp [h0, hp])]
    exact .rfl'
theorem ga_life (p n : Int) {h0 : Hp} {id : Nat} {m : Em} {h : Hp} (he : GA h0 id m h) : ACalls prog G 49 [.ptr id 0, .int .i64 p, .int .i64 n] h fun r h' => r = .tup [] ∧ GA h0 id (m.lifeF p n) h' := by
  obtain ⟨g, hm, hI, hS, hp, ha⟩ := he
  exact (rlife_calls p n ha hI hS).mono fun r h' ⟨e, ha'⟩ => ⟨e, _, mt_life hS hm, rlife_inv hI, fun e => rlife_sm (hS (err_of_rlife e)), by rw [rlife_pend]; exact hp, ha'⟩

end Go.Proofs.YtijhmlkffkedeaaGreatDoor
