/- Walks: creatures that fight: the hits of one. -/
import Derived.Test.YtijhmlkffkedeaaGreatDoorCs11
namespace Go.Proofs.YtijhmlkffkedeaaGreatDoor
open Go Go.AV Go.Proofs.Tryz
set_option maxRecDepth 100000
set_option maxHeartbeats 1000000
def filUp (p : Int → Bool) (l : List Int) (k : Nat) : List Int := (l.take k).filter p
section
variable {p : Int → Bool} {l : List Int} {k : Nat}
theorem fil_all : filUp p l l.length = l.filter p := by simp [filUp]
theorem fil_step (h : k < l.length) : filUp p l (k + 1) = filUp p l k ++ if p (l.getD k 0) then [l.getD k 0] else [] := by
  rw [filUp, List.take_add_one, List.getElem?_eq_getElem h, getD_of h, Option.toList_some, List.filter_append, filUp]; simp only [List.filter_cons, List.filter_nil]
theorem fil_yes (h : k < l.length) (c : p (l.getD k 0) = true) : filUp p l (k + 1) = filUp p l k ++ [l.getD k 0] := by rw [fil_step h, if_pos c]
theorem fil_no (h : k < l.length) (c : p (l.getD k 0) = false) : filUp p l (k + 1) = filUp p l k := by rw [fil_step h, if_neg (by rw [c]; decide), List.append_nil]
theorem fil_le : (filUp p l k).length ≤ l.length := Nat.le_trans (List.length_filter_le _ _) (by rw [List.length_take]; omega)
end
def attackersF (s : St) : List Int := (s.lists 8).filter (attacksF s)
def blocksF (s : St) (a : Int) (b : Int) : Bool := isF s b && s.objs.getD b.toNat noObj 12 == a + 1
def blockersF (s : St) (a : Int) : List Int := (s.lists 8).filter (blocksF s a)
def powerF (s : St) (i : Int) : Int := if (ofF s i).2 = 0 then max (ofF s i).1.p 0 else 0
def needsF (s : St) (a b : Int) : Int := if hasF s a 16 then 1 else if (leftF s b).2 = 0 then max (leftF s b).1 0 else 0
/-- A hit. -/
structure Hit where
  f : Int
  t : Int
  n : Int
def cHit (x : Hit) : List V := [.int .i64 x.f, .int .i64 x.t, .int .i64 x.n]
def cHits (l : List Hit) : List V := l.flatMap cHit
abbrev eHits (l : List Hit) : V := .sl .imm 3 l.length (cHits l)
theorem cHits_len (l : List Hit) : (cHits l).length = l.length * 3 := flat_len (f := cHit) (n := 3) (fun _ => rfl) l
theorem cHits_app (l : List Hit) (x : Hit) : cHits (l ++ [x]) = cHits l ++ cHit x := by simp [cHits]
def takesF (s : St) (a : Int) (bl : List Int) (k : Nat) (left : Int) : Int := if hasF s a 64 = true ∨ (k : Int) < bl.length - 1 then min left (needsF s a (bl.getD k 0)) else left
def hitUp (s : St) (a : Int) (bl : List Int) : Nat → List Hit × Int
  | 0 => ([], powerF s a)
  | k + 1 => ((hitUp s a bl k).1 ++ [⟨a, atF (bl.getD k 0), takesF s a bl k (hitUp s a bl k).2⟩], (hitUp s a bl k).2 - takesF s a bl k (hitUp s a bl k).2)
def hitBack (s : St) (a : Int) (bl : List Int) (k : Nat) : List Hit := (List.range k).map fun j => ⟨bl.getD j 0, atF a, powerF s (bl.getD j 0)⟩
def foeAt (s : St) : Int := -1 - foeF (s.game 1)
def hitFront (s : St) (a : Int) (bl : List Int) : List Hit := (hitUp s a bl bl.length).1 ++ if hasF s a 64 then [⟨a, foeAt s, (hitUp s a bl bl.length).2⟩] else []
/-- The hits of an attacker, and back. -/
def hitsF (s : St) (a : Int) : List Hit :=
  if (blockersF s a).length = 0 then [⟨a, foeAt s, powerF s a⟩] else hitFront s a (blockersF s a) ++ hitBack s a (blockersF s a) (blockersF s a).length
theorem of_bd {s : St} {i : Int} (hl8 : (s.lists 8).length ≤ 1000000) (h0 : (ofF s i).2 = 0) : (-1000000000000 ≤ (ofF s i).1.p ∧ (ofF s i).1.p ≤ 1000000000000) ∧ -1000000000000 ≤ (ofF s i).1.t ∧ (ofF s i).1.t ≤ 1000000000000 := by
  obtain ⟨hc0, hcr, ho⟩ := of_ok h0
  obtain ⟨p1, p2, p3, p4⟩ := right_parts hc0
  have hi := creature_in hcr
  have hsl : (staticsF s).length ≤ 10000000 := by rw [← stUp_all]; exact stUp_len hl8
  have hbd := evUp_bd (right_obd p2 hi) _ (Nat.le_refl _)
  rw [evUp_all] at hbd
  obtain ⟨⟨q1, q2, q3, q4⟩, q5, q6, q7, q8⟩ := hbd
  have e1 : (ofF s i).1.t = (evSum s i (staticsF s)).out.t + (evSum s i (staticsF s)).more.t := by rw [ho]; rfl
  have e2 : (ofF s i).1.p = (evSum s i (staticsF s)).out.p + (evSum s i (staticsF s)).more.p := by rw [ho]; rfl
  omega
theorem power_bd {s : St} {i : Int} (hl8 : (s.lists 8).length ≤ 1000000) : 0 ≤ powerF s i ∧ powerF s i ≤ 1000000000000 := by
  unfold powerF; split
  · rename_i h; have := of_bd hl8 h; omega
  · omega
theorem needs_bd {s : St} {a b : Int} : 0 ≤ needsF s a b := by
  unfold needsF; split
  · omega
  · split <;> omega
theorem takes_bd {s : St} {a left : Int} {bl : List Int} {k : Nat} (h : 0 ≤ left) : 0 ≤ takesF s a bl k left ∧ takesF s a bl k left ≤ left := by
  have := needs_bd (s := s) (a := a) (b := bl.getD k 0)
  unfold takesF; split <;> omega
theorem hitUp_bd {s : St} {a : Int} {bl : List Int} (hl8 : (s.lists 8).length ≤ 1000000) : ∀ k, 0 ≤ (hitUp s a bl k).2 ∧ (hitUp s a bl k).2 ≤ 1000000000000
  | 0 => power_bd hl8
  | k + 1 => by
    have ih := hitUp_bd (a := a) (bl := bl) hl8 k
    have := takes_bd (s := s) (a := a) (bl := bl) (k := k) ih.1
    show 0 ≤ (hitUp s a bl k).2 - takesF s a bl k (hitUp s a bl k).2 ∧ (hitUp s a bl k).2 - takesF s a bl k (hitUp s a bl k).2 ≤ 1000000000000
    omega
theorem hitUp_len {s : St} {a : Int} {bl : List Int} : ∀ k, (hitUp s a bl k).1.length = k
  | 0 => rfl
  | k + 1 => by simp [hitUp, hitUp_len k]
theorem hitBack_len {s : St} {a : Int} {bl : List Int} {k : Nat} : (hitBack s a bl k).length = k := by simp [hitBack]
theorem hitBack_next {s : St} {a : Int} {bl : List Int} {k : Nat} : hitBack s a bl (k + 1) = hitBack s a bl k ++ [⟨bl.getD k 0, atF a, powerF s (bl.getD k 0)⟩] := by simp [hitBack, List.range_succ]
theorem takes_yes {s : St} {a left : Int} {bl : List Int} {k : Nat} (c : (bif hasF s a 64 then true else decide ((k : Int) < bl.length - 1)) = true) : takesF s a bl k left = min left (needsF s a (bl.getD k 0)) := by
  rw [takesF, if_pos]; rw [cnd_or] at c; simpa using c
theorem takes_no {s : St} {a left : Int} {bl : List Int} {k : Nat} (c : (bif hasF s a 64 then true else decide ((k : Int) < bl.length - 1)) = false) : takesF s a bl k left = left := by
  rw [takesF, if_neg]; rw [cnd_or] at c; intro h; rcases h with h | h <;> simp_all

theorem attackers_calls (s : St) (hb : s.objs.length ≤ 1000000) (hl : ∀ z, (s.lists z).length ≤ 1000000) (h : Hp) : ACalls prog G 11 [eState s] h fun r h' => r = eInts (attackersF s) ∧ h' = h := by
  have hl8 := hl 8
  refine ACalls.enter func11 rfl ntmps11 results11 rfl ?_
  refine .seq <|
    .region <|
    .bx rfl rfl <|
    .aN rfl rfl <|
    .nil <|
    .seq <|
    .region <|
    .aN rfl rfl <|
    .nil <|
    .seq <|
    .seq <|
    .region <|
    .fi rfl f29_1 rfl ?_
  refine .u rfl rfl rfl (q_ia_ai rfl underlying24 sizeOf23 rfl rfl (by decide) (by decide) rfl) ?_
  refine .li rfl isAgg23 rfl rfl <|
    .ln rfl underlying23 rfl <|
    .mI rfl rfl <|
    .nil <|
    .block ?_
  refine AW.loop (fun n T hh => ∃ (i : Nat) (v : V), i ≤ (s.lists 8).length ∧ n = (s.lists 8).length - i ∧ T = put (put (put (put (put (T0) 10 (V.int .i64 (i : Nat))) 9 (V.int .i64 (s.lists 8).length)) 8 (eInts (s.lists 8))) 3 (v)) 1 (V.iptr (cState s)) ∧ Go.AV.Acc h 1 (filUp (attacksF s) (s.lists 8) i).length (cInts (filUp (attacksF s) (s.lists 8) i)) v hh) ((s.lists 8).length) ?_ ?_
  · skip
    refine Wk.mk (TLe.put (d := 1) (VLe.refl _) (TLe.put (d := 3) (VLe.refl _) (TLe.put (d := 8) (VLe.refl _) (TLe.put (d := 9) (VLe.refl _) (TLe.put (d := 10) (by exact VLe.of_eq (congrArg (V.int .i64) (by first | rfl | omega))) (TLe.zero _)))))) (HLe.refl _) ⟨0, V.snil, Nat.zero_le _, rfl, rfl, by exact Go.AV.Acc.nil h 1⟩
  · skip
    rintro n T h' ⟨i, v, hi, rfl, rfl, hem⟩
    refine .seq <|
      .region <|
      .ql rfl rfl rfl <|
      .nil <|
      .seq ?_
    refine AW.cond rfl (fun c0 => ?_) (fun c0 => ?_)
    · have hlt : i < (s.lists 8).length := by have := of_decide_eq_true c0; omega
      have hul := fil_le (p := attacksF s) (l := s.lists 8) (k := i)
      refine AW.skip ?_
      refine .seq <|
        .block <|
        .seq <|
        .region ?_
      refine .u rfl rfl rfl (q_ia_s rfl underlying23 sizeOf3 rfl rfl (by omega) (by omega) (cInts_at hlt)) ?_
      refine .li rfl isAgg3 rfl rfl <|
        .aI rfl rfl <|
        .nil <|
        .seq <|
        .region <|
        .lw rfl isAgg29 sizeOf29 rfl rfl <|
        .mI rfl rfl ?_
      refine .u rfl rfl rfl (QOp.call rfl call39 fun h' hl' => by exact attacks_calls _ _ hb hl h') ?_
      refine .nil ?_
      refine AW.cond rfl (fun c1 => ?_) (fun c1 => ?_)
      · skip
        refine .region ?_
        refine .u rfl rfl rfl (q_mv rfl (rfl : _ = _)) ?_
        refine .mI rfl rfl ?_
        refine .u rfl rfl rfl (q_buildSl rfl underlying23 sizeOf3 zeroValue3 rfl rfl rfl rfl rfl) ?_
        refine AOps.s rfl rfl rfl (a_append rfl underlying23 (i := t3) (by kernel_rfl) rfl (n := 1) (by' := 8) rfl rfl rfl rfl hem rfl rfl (by decide) (by omega) (by omega) rfl (fun v2 h2 acc => ?_))
        refine .u rfl rfl rfl (q_as rfl (rfl : _ = _)) ?_
        refine .nil <|
          .region <|
          .ad rfl rfl rfl (by omega) <|
          .mI rfl rfl <|
          .nil ?_
        refine Wk.mk (TLe.put (d := 1) (VLe.refl _) (TLe.put (d := 3) (VLe.refl _) (TLe.put (d := 8) (VLe.refl _) (TLe.put (d := 9) (VLe.refl _) (TLe.put (d := 10) (by exact VLe.of_eq (congrArg (V.int .i64) (by first | rfl | omega))) (TLe.zero _)))))) (HLe.refl _) ⟨_, ?_, i + 1, _, ?_, rfl, rfl, by first | (rw [fil_yes hlt (by first | exact c1 | (rw [cnd_and] at c1; exact c1)), cInts_app, List.length_append]; exact acc) | (rw [fil_no hlt (by first | exact c1 | (rw [cnd_and] at c1; exact c1))]; exact hem)⟩
        · omega
        · omega
      · skip
        refine AW.skip ?_
        refine .region <|
          .ad rfl rfl rfl (by omega) <|
          .mI rfl rfl <|
          .nil ?_
        refine Wk.mk (TLe.put (d := 1) (VLe.refl _) (TLe.put (d := 3) (VLe.refl _) (TLe.put (d := 8) (VLe.refl _) (TLe.put (d := 9) (VLe.refl _) (TLe.put (d := 10) (by exact VLe.of_eq (congrArg (V.int .i64) (by first | rfl | omega))) (TLe.zero _)))))) (HLe.refl _) ⟨_, ?_, i + 1, _, ?_, rfl, rfl, by first | (rw [fil_yes hlt (by first | exact c1 | (rw [cnd_and] at c1; exact c1)), cInts_app, List.length_append]; exact acc) | (rw [fil_no hlt (by first | exact c1 | (rw [cnd_and] at c1; exact c1))]; exact hem)⟩
        · omega
        · omega
    · obtain rfl : i = (s.lists 8).length := by have := of_decide_eq_false c0; omega
      rw [fil_all] at hem
      refine AW.exit ?_
      refine .seq <|
        .region ?_
      refine .u rfl rfl rfl (q_mv rfl (rfl : _ = _)) ?_
      refine .u rfl rfl rfl (q_as rfl (rfl : _ = _)) ?_
      refine .nil ?_
      refine AW.ret ?_
      exact retQ.mk' (.one _) hem.vle hem.hle ⟨rfl, rfl⟩

theorem blockers_calls (s : St) (a : Int) (ha : -1000000000 ≤ a ∧ a ≤ 1000000000) (hb : s.objs.length ≤ 1000000) (hl : ∀ z, (s.lists z).length ≤ 1000000) (h : Hp) : ACalls prog G 73 [eState s, .int .i64 a] h fun r h' => r = eInts (blockersF s a) ∧ h' = h := by
  have hl8 := hl 8
  refine ACalls.enter func73 rfl ntmps73 results73 rfl ?_
  refine .seq <|
    .region <|
    .bx rfl rfl <|
    .aN rfl rfl <|
    .nil <|
    .seq <|
    .region <|
    .aN rfl rfl <|
    .nil <|
    .seq <|
    .seq <|
    .region <|
    .fi rfl f29_1 rfl ?_
  refine .u rfl rfl rfl (q_ia_ai rfl underlying24 sizeOf23 rfl rfl (by decide) (by decide) rfl) ?_
  refine .li rfl isAgg23 rfl rfl <|
    .ln rfl underlying23 rfl <|
    .mI rfl rfl <|
    .nil <|
    .block ?_
  refine AW.loop (fun n T hh => ∃ (i : Nat) (v : V), i ≤ (s.lists 8).length ∧ n = (s.lists 8).length - i ∧ T = put (put (put (put (put (put (T0) 12 (V.int .i64 (i : Nat))) 11 (V.int .i64 (s.lists 8).length)) 10 (eInts (s.lists 8))) 5 (v)) 2 (V.iptr (cState s))) 1 (V.int .i64 a) ∧ Go.AV.Acc h 1 (filUp (blocksF s a) (s.lists 8) i).length (cInts (filUp (blocksF s a) (s.lists 8) i)) v hh) ((s.lists 8).length) ?_ ?_
  · skip
    refine Wk.mk (TLe.put (d := 1) (VLe.refl _) (TLe.put (d := 2) (VLe.refl _) (TLe.put (d := 5) (VLe.refl _) (TLe.put (d := 10) (VLe.refl _) (TLe.put (d := 11) (VLe.refl _) (TLe.put (d := 12) (by exact VLe.of_eq (congrArg (V.int .i64) (by first | rfl | omega))) (TLe.zero _))))))) (HLe.refl _) ⟨0, V.snil, Nat.zero_le _, rfl, rfl, by exact Go.AV.Acc.nil h 1⟩
  · skip
    rintro n T h' ⟨i, v, hi, rfl, rfl, hem⟩
    refine .seq <|
      .region <|
      .ql rfl rfl rfl <|
      .nil <|
      .seq ?_
    refine AW.cond rfl (fun c0 => ?_) (fun c0 => ?_)
    · have hlt : i < (s.lists 8).length := by have := of_decide_eq_true c0; omega
      have hul := fil_le (p := blocksF s a) (l := s.lists 8) (k := i)
      refine AW.skip ?_
      refine .seq <|
        .block <|
        .seq <|
        .region ?_
      refine .u rfl rfl rfl (q_ia_s rfl underlying23 sizeOf3 rfl rfl (by omega) (by omega) (cInts_at hlt)) ?_
      refine .li rfl isAgg3 rfl rfl <|
        .aI rfl rfl <|
        .nil <|
        .seq <|
        .region <|
        .lw rfl isAgg29 sizeOf29 rfl rfl <|
        .mI rfl rfl ?_
      refine .u rfl rfl rfl (QOp.call rfl call40 fun h' hl' => by exact isS_calls _ _ hb hl h') ?_
      refine .mB rfl rfl ?_
      refine .gt rfl rfl rfl (fun _ => tl0) (fun hc => q_load_iW rfl isAgg29 sizeOf29 rfl (by rfl)) ?_
      refine .gt rfl rfl rfl (fun _ => tl0) (fun hc => q_mv rfl (rfl : _ = V.int _ _)) ?_
      refine .gt rfl rfl rfl (fun hc => tl2 21 20 (.opt hc) (.opt hc)) (fun hc => QOp.call rfl (by exact call41) fun h' hl' => by exact field_calls s _ 12 (is_in hc) (by decide) h') ?_
      refine .gt rfl rfl rfl (fun _ => tl0) (fun hc => q_mv rfl (rfl : _ = V.int _ _)) ?_
      refine .gt rfl rfl rfl (fun hc => tl1 23 (.opt hc)) (fun hc => q_add' rfl rfl rfl (by omega)) ?_
      refine .gt rfl rfl rfl (fun hc => tl2 24 22 (.opt hc) (.opt hc)) (fun hc => q_eq rfl rfl rfl) ?_
      refine .pt rfl rfl rfl rfl <|
        .nil ?_
      refine AW.cond rfl (fun c1 => ?_) (fun c1 => ?_)
      · skip
        refine .region ?_
        refine .u rfl rfl rfl (q_mv rfl (rfl : _ = _)) ?_
        refine .mI rfl rfl ?_
        refine .u rfl rfl rfl (q_buildSl rfl underlying23 sizeOf3 zeroValue3 rfl rfl rfl rfl rfl) ?_
        refine AOps.s rfl rfl rfl (a_append rfl underlying23 (i := t3) (by kernel_rfl) rfl (n := 1) (by' := 8) rfl rfl rfl rfl hem rfl rfl (by decide) (by omega) (by omega) rfl (fun v2 h2 acc => ?_))
        refine .u rfl rfl rfl (q_as rfl (rfl : _ = _)) ?_
        refine .nil <|
          .region <|
          .ad rfl rfl rfl (by omega) <|
          .mI rfl rfl <|
          .nil ?_
        refine Wk.mk (TLe.put (d := 1) (VLe.refl _) (TLe.put (d := 2) (VLe.refl _) (TLe.put (d := 5) (VLe.refl _) (TLe.put (d := 10) (VLe.refl _) (TLe.put (d := 11) (VLe.refl _) (TLe.put (d := 12) (by exact VLe.of_eq (congrArg (V.int .i64) (by first | rfl | omega))) (TLe.zero _))))))) (HLe.refl _) ⟨_, ?_, i + 1, _, ?_, rfl, rfl, by first | (rw [fil_yes hlt (by first | exact c1 | (rw [cnd_and] at c1; exact c1)), cInts_app, List.length_append]; exact acc) | (rw [fil_no hlt (by first | exact c1 | (rw [cnd_and] at c1; exact c1))]; exact hem)⟩
        · omega
        · omega
      · skip
        refine AW.skip ?_
        refine .region <|
          .ad rfl rfl rfl (by omega) <|
          .mI rfl rfl <|
          .nil ?_
        refine Wk.mk (TLe.put (d := 1) (VLe.refl _) (TLe.put (d := 2) (VLe.refl _) (TLe.put (d := 5) (VLe.refl _) (TLe.put (d := 10) (VLe.refl _) (TLe.put (d := 11) (VLe.refl _) (TLe.put (d := 12) (by exact VLe.of_eq (congrArg (V.int .i64) (by first | rfl | omega))) (TLe.zero _))))))) (HLe.refl _) ⟨_, ?_, i + 1, _, ?_, rfl, rfl, by first | (rw [fil_yes hlt (by first | exact c1 | (rw [cnd_and] at c1; exact c1)), cInts_app, List.length_append]; exact acc) | (rw [fil_no hlt (by first | exact c1 | (rw [cnd_and] at c1; exact c1))]; exact hem)⟩
        · omega
        · omega
    · obtain rfl : i = (s.lists 8).length := by have := of_decide_eq_false c0; omega
      rw [fil_all] at hem
      refine AW.exit ?_
      refine .seq <|
        .region ?_
      refine .u rfl rfl rfl (q_mv rfl (rfl : _ = _)) ?_
      refine .u rfl rfl rfl (q_as rfl (rfl : _ = _)) ?_
      refine .nil ?_
      refine AW.ret ?_
      exact retQ.mk' (.one _) hem.vle hem.hle ⟨rfl, rfl⟩

theorem power_calls (s : St) (i : Int) (hb : s.objs.length ≤ 1000000) (hl : ∀ z, (s.lists z).length ≤ 1000000) (h : Hp) : ACalls prog G 72 [eState s, .int .i64 i] h fun r h' => r = .int .i64 (powerF s i) ∧ h' = h := by
  refine ACalls.enter func72 rfl ntmps72 results72 rfl ?_
  refine .seq <|
    .region <|
    .bx rfl rfl <|
    .aI rfl rfl <|
    .nil <|
    .seq <|
    .region <|
    .lw rfl isAgg29 sizeOf29 rfl rfl <|
    .mI rfl rfl ?_
  refine .u rfl rfl rfl (QOp.call rfl call66 fun h' hl' => by exact of_calls s i hb hl h') ?_
  refine .u rfl rfl rfl (q_mv rfl (rfl : _ = V.tup _)) ?_
  refine .u rfl rfl rfl (q_extract rfl rfl rfl) ?_
  refine .u rfl rfl rfl (q_extract rfl rfl rfl) ?_
  refine AOps.s rfl rfl rfl (a_alloc rfl zeroValue100 rfl (fun id5 hid5 => ?_))
  refine .sw sizeOf100 rfl rfl rfl rfl ?_
  refine AOps.done 5 rfl hid5 ?_
  refine .u rfl rfl rfl (q_as rfl (rfl : _ = eErr _ _)) ?_
  refine .nil <|
    .seq <|
    .seq <|
    .region ?_
  refine .u rfl rfl rfl (q_mv rfl (rfl : _ = eErr _ _)) ?_
  refine .u rfl rfl rfl (q_neerr underlying54 rfl rfl) ?_
  refine .nil ?_
  refine AW.cond rfl (fun c0 => ?_) (fun c0 => ?_)
  · skip
    refine .seq <|
      .region <|
      .aI rfl rfl <|
      .nil ?_
    refine AW.ret ?_
    exact retQ.mk' (.one _) (VLe.of_eq (congrArg (V.int .i64) (by rw [powerF, if_neg (by simpa using c0)]))) (HLe.refl _) ⟨rfl, rfl⟩
  · skip
    refine AW.skip ?_
    refine .seq <|
      .region <|
      .fi rfl f100_0 rfl <|
      .li rfl isAgg3 rfl rfl ?_
    refine .u rfl rfl rfl (q_max rfl rfl rfl) ?_
    refine .aI rfl rfl <|
      .nil ?_
    refine AW.ret ?_
    exact retQ.mk' (.one _) (VLe.of_eq (congrArg (V.int .i64) (by rw [powerF, if_pos (by simpa using c0)]))) (HLe.refl _) ⟨rfl, rfl⟩

theorem needs_calls (s : St) (a b : Int) (hb : s.objs.length ≤ 1000000) (hl : ∀ z, (s.lists z).length ≤ 1000000) (h : Hp) : ACalls prog G 74 [eState s, .int .i64 a, .int .i64 b] h fun r h' => r = .int .i64 (needsF s a b) ∧ h' = h := by
  refine ACalls.enter func74 rfl ntmps74 results74 rfl ?_
  refine .seq <|
    .region <|
    .bx rfl rfl <|
    .aI rfl rfl <|
    .nil <|
    .seq <|
    .seq <|
    .region <|
    .lw rfl isAgg29 sizeOf29 rfl rfl <|
    .mI rfl rfl ?_
  refine .u rfl rfl rfl (QOp.call rfl call31 fun h' hl' => by exact has'_calls _ _ _ hb hl h') ?_
  refine .nil ?_
  refine AW.cond rfl (fun c0 => ?_) (fun c0 => ?_)
  · skip
    refine .seq <|
      .region <|
      .aI rfl rfl <|
      .nil ?_
    refine AW.ret ?_
    exact retQ.mk' (.one _) (VLe.of_eq (congrArg (V.int .i64) (by rw [needsF, if_pos c0]))) (HLe.refl _) ⟨rfl, rfl⟩
  · skip
    refine AW.skip ?_
    refine .seq <|
      .region <|
      .lw rfl isAgg29 sizeOf29 rfl rfl <|
      .mI rfl rfl ?_
    refine .u rfl rfl rfl (QOp.call rfl call110 fun h' hl' => by exact left_calls s b hb hl h') ?_
    refine .u rfl rfl rfl (q_mv rfl (rfl : _ = V.tup _)) ?_
    refine .u rfl rfl rfl (q_extract rfl rfl rfl) ?_
    refine .u rfl rfl rfl (q_extract rfl rfl rfl) ?_
    refine .aI rfl rfl ?_
    refine .u rfl rfl rfl (q_as rfl (rfl : _ = eErr _ _)) ?_
    refine .nil <|
      .seq <|
      .seq <|
      .region ?_
    refine .u rfl rfl rfl (q_mv rfl (rfl : _ = eErr _ _)) ?_
    refine .u rfl rfl rfl (q_neerr underlying54 rfl rfl) ?_
    refine .nil ?_
    refine AW.cond rfl (fun c1 => ?_) (fun c1 => ?_)
    · skip
      refine .seq <|
        .region <|
        .aI rfl rfl <|
        .nil ?_
      refine AW.ret ?_
      exact retQ.mk' (.one _) (VLe.of_eq (congrArg (V.int .i64) (by rw [needsF, if_neg (by rw [c0]; decide), if_neg (by simpa using c1)]))) (HLe.refl _) ⟨rfl, rfl⟩
    · skip
      refine AW.skip ?_
      refine .seq <|
        .region <|
        .mI rfl rfl ?_
      refine .u rfl rfl rfl (q_max rfl rfl rfl) ?_
      refine .aI rfl rfl <|
        .nil ?_
      refine AW.ret ?_
      exact retQ.mk' (.one _) (VLe.of_eq (congrArg (V.int .i64) (by rw [needsF, if_neg (by rw [c0]; decide), if_pos (by simpa using c1)]))) (HLe.refl _) ⟨rfl, rfl⟩

theorem hits_calls (s : St) (a : Int) (ha : -1000000000 ≤ a ∧ a ≤ 1000000000) (hg : 0 ≤ s.game 1 ∧ s.game 1 ≤ 1) (hb : s.objs.length ≤ 1000000) (hl : ∀ z, (s.lists z).length ≤ 1000000) (h8 : ∀ b ∈ s.lists 8, -1000000000 ≤ b ∧ b ≤ 1000000000) (h : Hp) : ACalls prog G 33 [eState s, .int .i64 a] h fun r h' => r = eHits (hitsF s a) ∧ h' = h := by
  have hl8 := hl 8
  obtain ⟨bl, hbl⟩ : ∃ bl, bl = blockersF s a := ⟨_, rfl⟩
  have hlen : bl.length ≤ 1000000 := by rw [hbl]; exact Nat.le_trans (List.length_filter_le _ _) hl8
  have hbm : ∀ j, j < bl.length → -1000000000 ≤ bl.getD j 0 ∧ bl.getD j 0 ≤ 1000000000 := fun j hj => h8 _ ((List.mem_filter.1 (show bl.getD j 0 ∈ (s.lists 8).filter (blocksF s a) from (show bl = (s.lists 8).filter (blocksF s a) from hbl) ▸ getD_mem hj)).1)
  have hfo : foeF (s.game 1) = 1 - s.game 1 := by rw [foeF, if_pos (by omega)]
  have hpw := power_bd (i := a) hl8
  refine ACalls.enter func33 rfl ntmps33 results33 rfl ?_
  refine .seq <|
    .region <|
    .bx rfl rfl <|
    .aN rfl rfl <|
    .nil <|
    .seq <|
    .region <|
    .fi rfl f29_30 rfl ?_
  refine .u rfl rfl rfl (q_ia_ai rfl underlying27 sizeOf3 rfl rfl (by decide) (by decide) rfl) ?_
  refine .li rfl isAgg3 rfl rfl ?_
  refine .u rfl rfl rfl (QOp.call rfl call42 fun h' hl' => by exact foe_calls _ h') ?_
  refine .u rfl rfl rfl (q_sub' rfl rfl rfl (by omega)) ?_
  refine .aI rfl rfl <|
    .nil <|
    .seq ?_
  refine AW.draw [] [] [(0, true), (1, true), (2, true), (3, true), (4, true), (5, true), (6, true), (7, true)] mixed (by kernel_rfl) rfl (by kernel_rfl) ?_
  refine .q rfl rfl rfl rfl (q_load_iW rfl isAgg29 sizeOf29 rfl (by rfl)) ?_
  refine .q rfl rfl rfl rfl (q_mv rfl (rfl : _ = V.int _ _)) ?_
  refine .q rfl rfl rfl rfl (QOp.call rfl (by exact call72) fun h' hl' => by exact power_calls _ _ hb hl h') ?_
  refine .q rfl rfl rfl rfl (q_load_iW rfl isAgg29 sizeOf29 rfl (by rfl)) ?_
  refine .q rfl rfl rfl rfl (q_mv rfl (rfl : _ = V.int _ _)) ?_
  refine .q rfl rfl rfl rfl (QOp.call (x := eInts bl) rfl (by exact call73) fun h' hl' => by rw [hbl]; exact blockers_calls s a ha hb hl h') ?_
  refine .q rfl rfl rfl rfl (q_as rfl (rfl : _ = V.int _ _)) ?_
  refine .q rfl rfl rfl rfl (q_as rfl (rfl : _ = V.sl _ _ _ _)) ?_
  refine AOrd.nil ?_
  refine .seq <|
    .seq <|
    .region <|
    .mS rfl rfl <|
    .ln rfl underlying23 rfl <|
    .qe rfl rfl rfl <|
    .nil ?_
  refine AW.cond rfl (fun c0 => ?_) (fun c0 => ?_)
  · have hz : bl.length = 0 := by simpa using c0
    refine .seq <|
      .region <|
      .mI rfl rfl <|
      .mI rfl rfl <|
      .mI rfl rfl ?_
    refine .u rfl rfl rfl (q_buildS (ds := cHit ⟨a, foeAt s, powerF s a⟩) rfl zeroValue40 underlying40 (pl40 underlying40) rfl (by kernel_rfl)) ?_
    refine .u rfl rfl rfl (q_buildSl (ds := cHit ⟨a, foeAt s, powerF s a⟩) rfl underlying32 sizeOf40 zeroValue40 rfl rfl rfl rfl (by kernel_rfl)) ?_
    refine .aS rfl rfl <|
      .nil ?_
    refine AW.ret ?_
    exact retQ.mk' (.one _) (by rw [hitsF, ← hbl, if_pos hz]; exact VLe.fullimm) (HLe.refl _) ⟨rfl, rfl⟩
  · have hz : ¬ bl.length = 0 := by simpa using c0
    refine AW.skip ?_
    refine .seq <|
      .region <|
      .aN rfl rfl <|
      .nil <|
      .seq <|
      .region <|
      .lw rfl isAgg29 sizeOf29 rfl rfl <|
      .mI rfl rfl ?_
    refine .u rfl rfl rfl (QOp.call rfl call31 fun h' hl' => by exact has'_calls _ _ _ hb hl h') ?_
    refine .aB rfl rfl <|
      .nil <|
      .seq <|
      .seq <|
      .region <|
      .mS rfl rfl <|
      .ln rfl underlying23 rfl <|
      .mI rfl rfl <|
      .nil <|
      .block ?_
    refine AW.loop (fun n T hh => ∃ (k : Nat) (v : V), k ≤ bl.length ∧ n = bl.length - k ∧ T = put (put (put (put (put (put (put (put (put (put (T0) 39 (V.int .i64 (k : Nat))) 38 (V.int .i64 bl.length)) 37 (eInts bl)) 9 (V.bool (hasF s a 64))) 8 (v)) 7 (eInts bl)) 6 (V.int .i64 (hitUp s a bl k).2)) 5 (V.int .i64 (foeAt s))) 2 (V.iptr (cState s))) 1 (V.int .i64 a) ∧ Go.AV.Acc h 3 (hitUp s a bl k).1.length (cHits (hitUp s a bl k).1) v hh) (bl.length) ?_ ?_
    · skip
      refine Wk.mk (TLe.put (d := 1) (VLe.refl _) (TLe.put (d := 2) (VLe.refl _) (TLe.put (d := 5) (VLe.of_eq (congrArg (V.int .i64) (by rw [foeAt]))) (TLe.put (d := 6) (by exact VLe.of_eq (congrArg (V.int .i64) (by first | rfl | omega))) (TLe.put (d := 7) (VLe.refl _) (TLe.put (d := 8) (VLe.refl _) (TLe.put (d := 9) (VLe.refl _) (TLe.put (d := 37) (VLe.refl _) (TLe.put (d := 38) (VLe.refl _) (TLe.put (d := 39) (by exact VLe.of_eq (congrArg (V.int .i64) (by first | rfl | omega))) (TLe.zero _))))))))))) (HLe.refl _) ⟨0, V.snil, Nat.zero_le _, rfl, rfl, by exact Go.AV.Acc.nil h 3⟩
    · skip
      rintro n T h' ⟨k, v, hk, rfl, rfl, hem⟩
      refine .seq <|
        .region <|
        .ql rfl rfl rfl <|
        .nil <|
        .seq ?_
      refine AW.cond rfl (fun c1 => ?_) (fun c1 => ?_)
      · have hltk : k < bl.length := by have := of_decide_eq_true c1; omega
        have hbk := hbm k hltk
        have hub := hitUp_bd (a := a) (bl := bl) hl8 k
        have htk := takes_bd (s := s) (a := a) (bl := bl) (k := k) hub.1
        have hul := hitUp_len (s := s) (a := a) (bl := bl) k
        refine AW.skip ?_
        refine .seq <|
          .block <|
          .seq <|
          .region <|
          .mI rfl rfl ?_
        refine .u rfl rfl rfl (q_ia_s rfl underlying23 sizeOf3 rfl rfl (by omega) (by omega) (cInts_at hltk)) ?_
        refine .li rfl isAgg3 rfl rfl <|
          .aI rfl rfl <|
          .aI rfl rfl <|
          .nil <|
          .seq <|
          .region <|
          .mI rfl rfl <|
          .aI rfl rfl <|
          .nil ?_
        refine AW.cut (fun T h1 => T = put (put (put (put (put (put (put (put (put (put (put (put T0 1 (V.int .i64 a)) 2 (V.iptr (cState s))) 5 (V.int .i64 (foeAt s))) 6 (V.int .i64 (hitUp s a bl k).2)) 7 (eInts bl)) 8 v) 9 (V.bool (hasF s a 64))) 37 (eInts bl)) 38 (V.int .i64 bl.length)) 39 (V.int .i64 (k : Nat))) 11 (V.int .i64 (bl.getD k 0))) 12 (V.int .i64 (takesF s a bl k (hitUp s a bl k).2)) ∧ h' = h1) ?_ ?_
        · skip
          refine .seq <|
            .region <|
            .mB rfl rfl <|
            .mB rfl rfl ?_
          refine .gf rfl rfl rfl (fun _ => tl0) (fun hc => q_mv rfl (rfl : _ = V.int _ _)) ?_
          refine .gf rfl rfl rfl (fun _ => tl0) (fun hc => q_mv rfl (rfl : _ = V.sl _ _ _ _)) ?_
          refine .gf rfl rfl rfl (fun hc => tl1 48 (.opt hc)) (fun hc => q_len rfl underlying23 rfl) ?_
          refine .gf rfl rfl rfl (fun hc => tl1 49 (.opt hc)) (fun hc => q_sub' rfl rfl rfl (by omega)) ?_
          refine .gf rfl rfl rfl (fun hc => tl2 50 47 (.opt hc) (.opt hc)) (fun hc => q_lt rfl rfl rfl) ?_
          refine .pf rfl rfl rfl rfl <|
            .nil ?_
          refine AW.cond rfl (fun c2 => ?_) (fun c2 => ?_)
          · skip
            refine .region <|
              .mI rfl rfl <|
              .lw rfl isAgg29 sizeOf29 rfl rfl <|
              .mI rfl rfl <|
              .mI rfl rfl ?_
            refine .u rfl rfl rfl (QOp.call rfl call74 fun h' hl' => by exact needs_calls s a (bl.getD k 0) hb hl h') ?_
            refine .u rfl rfl rfl (q_min rfl rfl rfl) ?_
            refine .aI rfl rfl <|
              .nil ?_
            exact Wk.mk (TLe.put (d := 12) (VLe.of_eq (congrArg (V.int .i64) (by first | exact (takes_yes c2).symm | exact (takes_no c2).symm))) (TLe.put (d := 11) (VLe.refl _) (TLe.put (d := 39) (VLe.refl _) (TLe.put (d := 38) (VLe.refl _) (TLe.put (d := 37) (VLe.refl _) (TLe.put (d := 9) (VLe.refl _) (TLe.put (d := 8) (VLe.refl _) (TLe.put (d := 7) (VLe.refl _) (TLe.put (d := 6) (VLe.refl _) (TLe.put (d := 5) (VLe.refl _) (TLe.put (d := 2) (VLe.refl _) (TLe.put (d := 1) (VLe.refl _) (TLe.zero _))))))))))))) (HLe.refl _) ⟨rfl, rfl⟩
          · skip
            refine AW.skip ?_
            exact Wk.mk (TLe.put (d := 12) (VLe.of_eq (congrArg (V.int .i64) (by first | exact (takes_yes c2).symm | exact (takes_no c2).symm))) (TLe.put (d := 11) (VLe.refl _) (TLe.put (d := 39) (VLe.refl _) (TLe.put (d := 38) (VLe.refl _) (TLe.put (d := 37) (VLe.refl _) (TLe.put (d := 9) (VLe.refl _) (TLe.put (d := 8) (VLe.refl _) (TLe.put (d := 7) (VLe.refl _) (TLe.put (d := 6) (VLe.refl _) (TLe.put (d := 5) (VLe.refl _) (TLe.put (d := 2) (VLe.refl _) (TLe.put (d := 1) (VLe.refl _) (TLe.zero _))))))))))))) (HLe.refl _) ⟨rfl, rfl⟩
        · rintro T h1 ⟨rfl, rfl⟩
          refine .seq <|
            .region ?_
          refine .u rfl rfl rfl (q_mv rfl (rfl : _ = _)) ?_
          refine .mI rfl rfl <|
            .mI rfl rfl ?_
          refine .u rfl rfl rfl (QOp.call rfl call75 fun h' hl' => by exact at_calls (bl.getD k 0) (by omega) h') ?_
          refine .mI rfl rfl ?_
          refine .u rfl rfl rfl (q_buildS (ds := cHit ⟨a, atF (bl.getD k 0), takesF s a bl k (hitUp s a bl k).2⟩) rfl zeroValue40 underlying40 (pl40 underlying40) rfl (by kernel_rfl)) ?_
          refine .u rfl rfl rfl (q_buildSl (ds := cHit ⟨a, atF (bl.getD k 0), takesF s a bl k (hitUp s a bl k).2⟩) rfl underlying32 sizeOf40 zeroValue40 rfl rfl rfl rfl (by kernel_rfl)) ?_
          refine AOps.s rfl rfl rfl (a_append rfl underlying32 (i := t40) (by kernel_rfl) rfl (n := 3) (by' := 24) rfl rfl rfl rfl hem rfl rfl (by decide) (by omega) (by omega) rfl (fun v2 h2 acc => ?_))
          refine .u rfl rfl rfl (q_as rfl (rfl : _ = _)) ?_
          refine .nil <|
            .region <|
            .mI rfl rfl <|
            .mI rfl rfl ?_
          refine .u rfl rfl rfl (q_sub' rfl rfl rfl (by omega)) ?_
          refine .aI rfl rfl <|
            .nil <|
            .region <|
            .ad rfl rfl rfl (by omega) <|
            .mI rfl rfl <|
            .nil ?_
          refine Wk.mk (TLe.put (d := 1) (VLe.refl _) (TLe.put (d := 2) (VLe.refl _) (TLe.put (d := 5) (VLe.refl _) (TLe.put (d := 6) (VLe.refl _) (TLe.put (d := 7) (VLe.refl _) (TLe.put (d := 8) (VLe.refl _) (TLe.put (d := 9) (VLe.refl _) (TLe.put (d := 37) (VLe.refl _) (TLe.put (d := 38) (VLe.refl _) (TLe.put (d := 39) (by exact VLe.of_eq (congrArg (V.int .i64) (by first | rfl | omega))) (TLe.zero _))))))))))) (HLe.refl _) ⟨_, ?_, k + 1, _, ?_, rfl, rfl, by rw [hitUp, cHits_app, List.length_append]; exact acc⟩
          · omega
          · omega
      · obtain rfl : k = bl.length := by have := of_decide_eq_false c1; omega
        have hul := hitUp_len (s := s) (a := a) (bl := bl) bl.length
        refine AW.exit ?_
        refine AW.cut (fun T h1 => ∃ v1, T = put (put (put (put T0 1 (V.int .i64 a)) 2 (V.iptr (cState s))) 7 (eInts bl)) 8 v1 ∧ Go.AV.Acc h 3 (hitFront s a bl).length (cHits (hitFront s a bl)) v1 h1) ?_ ?_
        · skip
          refine .seq <|
            .region <|
            .mB rfl rfl <|
            .nil ?_
          refine AW.cond rfl (fun c3 => ?_) (fun c3 => ?_)
          · skip
            refine .region ?_
            refine .u rfl rfl rfl (q_mv rfl (rfl : _ = _)) ?_
            refine .mI rfl rfl <|
              .mI rfl rfl <|
              .mI rfl rfl ?_
            refine .u rfl rfl rfl (q_buildS (ds := cHit ⟨a, foeAt s, (hitUp s a bl bl.length).2⟩) rfl zeroValue40 underlying40 (pl40 underlying40) rfl (by kernel_rfl)) ?_
            refine .u rfl rfl rfl (q_buildSl (ds := cHit ⟨a, foeAt s, (hitUp s a bl bl.length).2⟩) rfl underlying32 sizeOf40 zeroValue40 rfl rfl rfl rfl (by kernel_rfl)) ?_
            refine AOps.s rfl rfl rfl (a_append rfl underlying32 (i := t40) (by kernel_rfl) rfl (n := 3) (by' := 24) rfl rfl rfl rfl hem rfl rfl (by decide) (by omega) (by omega) rfl (fun v2 h2 acc => ?_))
            refine .u rfl rfl rfl (q_as rfl (rfl : _ = _)) ?_
            refine .nil ?_
            exact Wk.mk (TLe.put (d := 8) (VLe.refl _) (TLe.put (d := 7) (VLe.refl _) (TLe.put (d := 2) (VLe.refl _) (TLe.put (d := 1) (VLe.refl _) (TLe.zero _))))) (HLe.refl _) ⟨_, rfl, by first | (rw [hitFront, if_pos c3, cHits_app, List.length_append]; exact acc) | (rw [hitFront, if_neg (by rw [c3]; decide), List.append_nil]; exact hem)⟩
          · skip
            refine AW.skip ?_
            exact Wk.mk (TLe.put (d := 8) (VLe.refl _) (TLe.put (d := 7) (VLe.refl _) (TLe.put (d := 2) (VLe.refl _) (TLe.put (d := 1) (VLe.refl _) (TLe.zero _))))) (HLe.refl _) ⟨_, rfl, by first | (rw [hitFront, if_pos c3, cHits_app, List.length_append]; exact acc) | (rw [hitFront, if_neg (by rw [c3]; decide), List.append_nil]; exact hem)⟩
        · rintro T h2 ⟨v1, rfl, hem1⟩
          refine .seq <|
            .seq <|
            .region <|
            .mS rfl rfl <|
            .ln rfl underlying23 rfl <|
            .mI rfl rfl <|
            .nil <|
            .block ?_
          refine AW.loop (fun n T hh => ∃ (q : Nat) (v : V), q ≤ bl.length ∧ n = bl.length - q ∧ T = put (put (put (put (put (put (T0) 81 (V.int .i64 (q : Nat))) 80 (V.int .i64 bl.length)) 79 (eInts bl)) 8 (v)) 2 (V.iptr (cState s))) 1 (V.int .i64 a) ∧ Go.AV.Acc h 3 (hitFront s a bl ++ hitBack s a bl q).length (cHits (hitFront s a bl ++ hitBack s a bl q)) v hh) (bl.length) ?_ ?_
          · skip
            refine Wk.mk (TLe.put (d := 1) (VLe.refl _) (TLe.put (d := 2) (VLe.refl _) (TLe.put (d := 8) (VLe.refl _) (TLe.put (d := 79) (VLe.refl _) (TLe.put (d := 80) (VLe.refl _) (TLe.put (d := 81) (by exact VLe.of_eq (congrArg (V.int .i64) (by first | rfl | omega))) (TLe.zero _))))))) (HLe.refl _) ⟨0, v1, Nat.zero_le _, rfl, rfl, by rw [show hitBack s a bl 0 = [] from rfl, List.append_nil]; exact hem1⟩
          · skip
            rintro n T h' ⟨q, v, hq, rfl, rfl, hem2⟩
            refine .seq <|
              .region <|
              .ql rfl rfl rfl <|
              .nil <|
              .seq ?_
            refine AW.cond rfl (fun c4 => ?_) (fun c4 => ?_)
            · have hltq : q < bl.length := by have := of_decide_eq_true c4; omega
              have hbl2 := hitBack_len (s := s) (a := a) (bl := bl) (k := q)
              have hfl : (hitFront s a bl).length ≤ bl.length + 1 := by unfold hitFront; rw [List.length_append, hitUp_len]; split <;> simp
              have hal : (hitFront s a bl ++ hitBack s a bl q).length ≤ 2000002 := by rw [List.length_append]; omega
              refine AW.skip ?_
              refine .seq <|
                .block <|
                .seq <|
                .region ?_
              refine .u rfl rfl rfl (q_ia_s rfl underlying23 sizeOf3 rfl rfl (by omega) (by omega) (cInts_at hltq)) ?_
              refine .li rfl isAgg3 rfl rfl <|
                .aI rfl rfl <|
                .nil ?_
              refine AW.draw [9] [1, 2, 4, 5] [(0, true), (1, true), (2, true), (4, true), (5, true), (3, false), (6, true), (7, false), (8, true), (9, false), (10, true)] mixed (by kernel_rfl) rfl (by kernel_rfl) ?_
              refine .q rfl rfl rfl rfl (q_mv rfl (rfl : _ = _)) ?_
              refine .p rfl rfl rfl (fun _ => q_mv rfl (rfl : _ = V.int _ _)) ?_
              refine .p rfl rfl rfl (fun _ => q_mv rfl (rfl : _ = V.int _ _)) ?_
              refine .p rfl rfl rfl (fun _ => q_load_iW rfl isAgg29 sizeOf29 rfl (by rfl)) ?_
              refine .p rfl rfl rfl (fun _ => q_mv rfl (rfl : _ = V.int _ _)) ?_
              refine AOrd.qf rfl rfl rfl (QOp.call rfl (by exact call75) fun h' hl' => by exact at_calls a (by omega) h') ?_
              refine .q rfl rfl rfl rfl (QOp.call rfl (by exact call72) fun h' hl' => by exact power_calls _ _ hb hl h') ?_
              refine AOrd.qf rfl rfl rfl (q_buildS (ds := cHit ⟨bl.getD q 0, atF a, powerF s (bl.getD q 0)⟩) rfl zeroValue40 underlying40 (pl40 underlying40) rfl (by kernel_rfl)) ?_
              refine .q rfl rfl rfl rfl (q_buildSl (ds := cHit ⟨bl.getD q 0, atF a, powerF s (bl.getD q 0)⟩) rfl underlying32 sizeOf40 zeroValue40 rfl rfl rfl rfl (by kernel_rfl)) ?_
              refine AOrd.s rfl rfl rfl rfl (a_append rfl underlying32 (i := t40) (by kernel_rfl) rfl (n := 3) (by' := 24) rfl rfl rfl rfl hem2 rfl rfl (by decide) (by omega) (by omega) rfl (fun v2 h2 acc => ?_))
              refine .q rfl rfl rfl rfl (q_as rfl (rfl : _ = _)) ?_
              refine AOrd.nil ?_
              refine .region <|
                .ad rfl rfl rfl (by omega) <|
                .mI rfl rfl <|
                .nil ?_
              refine Wk.mk (TLe.put (d := 1) (VLe.refl _) (TLe.put (d := 2) (VLe.refl _) (TLe.put (d := 8) (VLe.refl _) (TLe.put (d := 79) (VLe.refl _) (TLe.put (d := 80) (VLe.refl _) (TLe.put (d := 81) (by exact VLe.of_eq (congrArg (V.int .i64) (by first | rfl | omega))) (TLe.zero _))))))) (HLe.refl _) ⟨_, ?_, q + 1, _, ?_, rfl, rfl, by rw [hitBack_next, ← List.append_assoc, cHits_app, List.length_append]; exact acc⟩
              · omega
              · omega
            · obtain rfl : q = bl.length := by have := of_decide_eq_false c4; omega
              refine AW.exit ?_
              refine .seq <|
                .region ?_
              refine .u rfl rfl rfl (q_mv rfl (rfl : _ = _)) ?_
              refine .u rfl rfl rfl (q_as rfl (rfl : _ = _)) ?_
              refine .nil ?_
              refine AW.ret ?_
              exact retQ.mk' (.one _) (by rw [hitsF, ← hbl, if_neg hz]; exact hem2.vle) hem2.hle ⟨rfl, rfl⟩

end Go.Proofs.YtijhmlkffkedeaaGreatDoor
/- Walks: all hits. -/
namespace Go.Proofs.YtijhmlkffkedeaaGreatDoor
open Go Go.AV Go.Proofs.Tryz
set_option maxRecDepth 100000
set_option maxHeartbeats 1000000
def noHit : Hit := ⟨0, 0, 0⟩
theorem cHits_elem : ∀ {l : List Hit} {slack : List V} {i : Nat}, i < l.length → ((cHits l ++ slack).drop (i * 3)).take 3 = cHit (l.getD i noHit)
  | [], _, i, h => by simp at h
  | o :: l, _, 0, _ => rfl
  | o :: l, slack, i + 1, h => by
    have ih := cHits_elem (l := l) (slack := slack) (i := i) (by simpa using h)
    show (((cHit o ++ cHits l) ++ slack).drop ((i + 1) * 3)).take 3 = cHit (l.getD i noHit)
    rw [← ih, List.append_assoc, show (i + 1) * 3 = (cHit o).length + i * 3 by show _ = 3 + i * 3; omega, List.drop_append, List.drop_eq_nil_of_le (by omega)]
    simp
theorem cHits_set : ∀ {l : List Hit} {slack : List V} {i : Nat} {x : Hit}, i < l.length → splice (cHits l ++ slack) (i * 3) (cHit x) = cHits (l.set i x) ++ slack
  | [], _, i, _, h => by simp at h
  | o :: l, _, 0, _, _ => rfl
  | o :: l, slack, i + 1, x, h => by
    have ih := cHits_set (l := l) (slack := slack) (i := i) (x := x) (by simpa using h)
    show splice (((cHit o ++ cHits l) ++ slack)) ((i + 1) * 3) (cHit x) = (cHit o ++ cHits (l.set i x)) ++ slack
    rw [List.append_assoc, List.append_assoc, ← ih, show (i + 1) * 3 = i * 3 + 1 + 1 + 1 by omega]; rfl
def hitIdxF (l : List Hit) : Int := match l.findIdx? (fun x => x.n == 0) with | some i => i | none => -1
def liveH (x : Hit) : Bool := x.n != 0
theorem hitIdx_some {l : List Hit} {i : Nat} (hi : i < l.length) (hx : (l.getD i noHit).n = 0) (hn : ∀ j, j < i → (l.getD j noHit).n ≠ 0) : hitIdxF l = i := by
  have : l.findIdx? (fun x => x.n == 0) = some i := by
    rw [List.findIdx?_eq_some_iff_getElem]
    refine ⟨hi, by rw [getD_of' hi] at hx; simpa using hx, fun j hj => ?_⟩
    have := hn j hj
    rw [getD_of' (by omega)] at this
    simpa using this
  rw [hitIdxF, this]
theorem hitIdx_none {l : List Hit} (hn : ∀ j, j < l.length → (l.getD j noHit).n ≠ 0) : hitIdxF l = -1 := by
  have : l.findIdx? (fun x => x.n == 0) = none := by
    rw [List.findIdx?_eq_none_iff]
    intro x hx
    obtain ⟨j, hj, rfl⟩ := List.getElem_of_mem hx
    have := hn j hj
    rw [getD_of' hj] at this
    simpa using this
  rw [hitIdxF, this]
theorem hitIdx_cases (l : List Hit) : (hitIdxF l = -1 ∧ l.filter liveH = l) ∨ ∃ i : Nat, hitIdxF l = i ∧ i < l.length ∧ (l.take (i + 1)).filter liveH = l.take i := by
  cases h : l.findIdx? (fun x => x.n == 0) with
  | none =>
    refine .inl ⟨by rw [hitIdxF, h], List.filter_eq_self.2 fun x hx => ?_⟩
    have := (List.findIdx?_eq_none_iff.1 h) x hx
    simpa [liveH] using this
  | some i =>
    obtain ⟨h1, h2, h3⟩ := List.findIdx?_eq_some_iff_getElem.1 h
    refine .inr ⟨i, by rw [hitIdxF, h], h1, ?_⟩
    rw [List.take_add_one, List.getElem?_eq_getElem h1, List.filter_append]
    have e1 : (l.take i).filter liveH = l.take i := List.filter_eq_self.2 fun x hx => by
      obtain ⟨j, hj, rfl⟩ := List.getElem_of_mem hx
      simp only [List.length_take] at hj
      have := h3 j (by omega)
      simpa [liveH] using this
    have e2 : ([l[i]] : List Hit).filter liveH = [] := by
      have : liveH l[i] = false := by simpa [liveH] using h2
      simp [this]
    rw [e1, Option.toList_some, e2, List.append_nil]

theorem hit0_calls (x : Hit) (h : Hp) : ACalls prog G 35 [.agg (cHit x)] h fun r h' => r = .bool (x.n == 0) ∧ h' = h := by
  refine ACalls.enter func35 rfl ntmps35 results35 rfl ?_
  refine .seq <|
    .region <|
    .bx rfl rfl <|
    .aB rfl rfl <|
    .nil <|
    .seq <|
    .region <|
    .fi rfl f40_2 rfl <|
    .li rfl isAgg3 rfl rfl <|
    .qe rfl rfl rfl <|
    .aB rfl rfl <|
    .nil ?_
  refine AW.ret ?_
  exact retQ.mk' (.one _) (VLe.refl _) (HLe.refl _) ⟨rfl, rfl⟩

theorem hitIdx_calls (l : List Hit) (slack : List V) (hlen : l.length ≤ 1000000000000000) {id : Nat} {h : Hp} (hbx : h.box id = some (cHits l ++ slack)) : ACalls prog G 76 [.bsl 3 id l.length, V.func (.func 35) [] []] h fun r h' => r = .int .i64 (hitIdxF l) ∧ h' = h := by
  refine ACalls.enter func76 rfl ntmps76 results76 rfl ?_
  refine .seq <|
    .region <|
    .aI rfl rfl <|
    .nil <|
    .seq <|
    .seq <|
    .region ?_
  refine .u rfl rfl rfl (q_mv rfl (rfl : _ = _)) ?_
  refine .ln rfl underlying32 rfl <|
    .mI rfl rfl <|
    .nil <|
    .block ?_
  refine AW.loop (fun n T hh => ∃ (i : Nat) , i ≤ l.length ∧ n = l.length - i ∧ T = put (put (put (put (T0) 8 (V.int .i64 (i : Nat))) 7 (V.int .i64 l.length)) 1 (V.func (.func 35) [] [])) 0 (V.bsl 3 id l.length) ∧ hh = h ∧ ∀ j, j < i → (l.getD j noHit).n ≠ 0) (l.length) ?_ ?_
  · skip
    refine Wk.mk (TLe.put (d := 0) (VLe.refl _) (TLe.put (d := 1) (VLe.refl _) (TLe.put (d := 7) (VLe.refl _) (TLe.put (d := 8) (by exact VLe.of_eq (congrArg (V.int .i64) (by first | rfl | omega))) (TLe.zero _))))) (HLe.refl _) ⟨0, Nat.zero_le _, rfl, rfl, rfl, fun j hj => by omega⟩
  · skip
    rintro n T h' ⟨i, hi, rfl, rfl, rfl, hn⟩
    refine .seq <|
      .region <|
      .ql rfl rfl rfl <|
      .nil <|
      .seq ?_
    refine AW.cond rfl (fun c0 => ?_) (fun c0 => ?_)
    · have hlt : i < l.length := by have := of_decide_eq_true c0; omega
      refine AW.skip ?_
      refine .seq <|
        .block <|
        .seq <|
        .region <|
        .mI rfl rfl <|
        .aI rfl rfl <|
        .nil <|
        .seq <|
        .region ?_
      refine .u rfl rfl rfl (q_mv rfl (rfl : _ = V.func _ _ _)) ?_
      refine .u rfl rfl rfl (q_mv rfl (rfl : _ = _)) ?_
      refine .mI rfl rfl ?_
      refine .u rfl rfl rfl (q_ia_bs rfl underlying32 sizeOf40 rfl rfl (by omega) (by omega)) ?_
      refine .u rfl rfl rfl (q_load_bN (ds := cHit (l.getD i noHit)) rfl isAgg40 sizeOf40 (by decide) rfl (hbx) rfl (by rw [Int.toNat_natCast]; exact cHits_elem hlt)) ?_
      refine .u rfl rfl rfl (QOp.callv rfl rfl call35 (fun h2 hl => hit0_calls _ h2)) ?_
      refine .nil ?_
      refine AW.cond rfl (fun c1 => ?_) (fun c1 => ?_)
      · skip
        refine .seq <|
          .region <|
          .mI rfl rfl <|
          .aI rfl rfl <|
          .nil ?_
        refine AW.ret ?_
        exact retQ.mk' (.one _) (VLe.of_eq (congrArg (V.int .i64) ((hitIdx_some hlt (by simpa using c1) hn).symm))) (HLe.refl _) ⟨rfl, rfl⟩
      · skip
        refine AW.skip ?_
        refine .region <|
          .ad rfl rfl rfl (by omega) <|
          .mI rfl rfl <|
          .nil ?_
        refine Wk.mk (TLe.put (d := 0) (VLe.refl _) (TLe.put (d := 1) (VLe.refl _) (TLe.put (d := 7) (VLe.refl _) (TLe.put (d := 8) (by exact VLe.of_eq (congrArg (V.int .i64) (by first | rfl | omega))) (TLe.zero _))))) (HLe.refl _) ⟨_, ?_, i + 1, ?_, rfl, rfl, rfl, fun j hj => by
            rcases Nat.lt_succ_iff_lt_or_eq.1 hj with e | e
            · exact hn j e
            · subst e; simpa using c1⟩
        · omega
        · omega
    · obtain rfl : i = l.length := by have := of_decide_eq_false c0; omega
      refine AW.exit ?_
      refine .seq <|
        .region <|
        .aI rfl rfl <|
        .nil ?_
      refine AW.ret ?_
      exact retQ.mk' (.one _) (VLe.of_eq (congrArg (V.int .i64) ((hitIdx_none hn).symm))) (HLe.refl _) ⟨rfl, rfl⟩

theorem hitIdx_nil (h : Hp) : ACalls prog G 76 [.snil, V.func (.func 35) [] []] h fun r h' => r = .int .i64 (-1) ∧ h' = h := by
  refine ACalls.enter func76 rfl ntmps76 results76 rfl ?_
  refine .seq <|
    .region <|
    .aI rfl rfl <|
    .nil <|
    .seq <|
    .seq <|
    .region ?_
  refine .u rfl rfl rfl (q_mv rfl (rfl : _ = V.snil)) ?_
  refine .ln rfl underlying32 rfl <|
    .mI rfl rfl <|
    .nil <|
    .block ?_
  refine AW.loop (fun n T hh => ∃ (i : Nat) , i ≤ 0 ∧ n = 0 - i ∧ T = put (put (T0) 8 (V.int .i64 (i : Nat))) 7 (V.int .i64 0) ∧ hh = h) (0) ?_ ?_
  · skip
    refine Wk.mk (TLe.put (d := 7) (VLe.refl _) (TLe.put (d := 8) (by exact VLe.of_eq (congrArg (V.int .i64) (by first | rfl | omega))) (TLe.zero _))) (HLe.refl _) ⟨0, Nat.zero_le _, rfl, rfl, rfl⟩
  · skip
    rintro n T h' ⟨i, hi, rfl, rfl, rfl⟩
    refine .seq <|
      .region <|
      .ql rfl rfl rfl <|
      .nil <|
      .seq ?_
    refine AW.cond rfl (fun c0 => ?_) (fun c0 => ?_)
    · have hlt : i < 0 := by have := of_decide_eq_true c0; omega
      omega
    · obtain rfl : i = 0 := by have := of_decide_eq_false c0; omega
      refine AW.exit ?_
      refine .seq <|
        .region <|
        .aI rfl rfl <|
        .nil ?_
      refine AW.ret ?_
      exact retQ.mk' (.one _) (VLe.of_eq (congrArg (V.int .i64) (rfl))) (HLe.refl _) ⟨rfl, rfl⟩

theorem hitDel_nil (h : Hp) : ACalls prog G 34 [.snil, V.func (.func 35) [] []] h fun r h' => r = .snil ∧ h' = h := by
  refine ACalls.enter func34 rfl ntmps34 results34 rfl ?_
  refine .seq <|
    .region <|
    .aN rfl rfl <|
    .nil <|
    .seq <|
    .region ?_
  refine .u rfl rfl rfl (q_mv rfl (rfl : _ = V.snil)) ?_
  refine .u rfl rfl rfl (q_mv rfl (rfl : _ = V.func _ _ _)) ?_
  refine .u rfl rfl rfl (QOp.call rfl call76 fun h' hl' => by exact hitIdx_nil h') ?_
  refine .aI rfl rfl <|
    .nil <|
    .seq <|
    .seq <|
    .region <|
    .mI rfl rfl <|
    .qe rfl rfl rfl <|
    .nil ?_
  refine AW.cond rfl (fun c0 => ?_) (fun c0 => ?_)
  · skip
    refine .seq <|
      .region ?_
    refine .u rfl rfl rfl (q_mv rfl (rfl : _ = V.snil)) ?_
    refine .aN rfl rfl <|
      .nil ?_
    refine AW.ret ?_
    exact retQ.mk' (.one _) (VLe.refl _) (HLe.refl _) ⟨rfl, rfl⟩
  · cases c0

/-- What lies in the row while hits go. -/
structure Del (l : List Hit) (j : Nat) (C : List Hit) : Prop where
  len : C.length = l.length
  fst : C.take ((l.take j).filter liveH).length = (l.take j).filter liveH
  lst : C.drop j = l.drop j
  lt : ((l.take j).filter liveH).length < j
theorem Del.at {l : List Hit} {j : Nat} {C : List Hit} (d : Del l j C) (hj : j < l.length) : C.getD j noHit = l.getD j noHit := by
  have h := d.lst
  rw [List.drop_eq_getElem_cons (by rw [d.len]; exact hj), List.drop_eq_getElem_cons hj] at h
  rw [getD_of' (by rw [d.len]; exact hj), getD_of' hj]
  exact (List.cons.inj h).1
theorem Del.no {l : List Hit} {j : Nat} {C : List Hit} (d : Del l j C) (hj : j < l.length) (hx : (l.getD j noHit).n = 0) : (l.take (j + 1)).filter liveH = (l.take j).filter liveH ∧ Del l (j + 1) C := by
  have e : (l.take (j + 1)).filter liveH = (l.take j).filter liveH := by
    rw [List.take_add_one, List.getElem?_eq_getElem hj, List.filter_append]
    rw [getD_of' hj] at hx
    simp [liveH, hx]
  refine ⟨e, d.len, by rw [e]; exact d.fst, ?_, by rw [e]; have := d.lt; omega⟩
  have := congrArg (List.drop 1) d.lst
  simpa [List.drop_drop, Nat.add_comm] using this
theorem Del.yes {l : List Hit} {j : Nat} {C : List Hit} (d : Del l j C) (hj : j < l.length) (hx : (l.getD j noHit).n ≠ 0) : (l.take (j + 1)).filter liveH = (l.take j).filter liveH ++ [l.getD j noHit] ∧ Del l (j + 1) (C.set ((l.take j).filter liveH).length (l.getD j noHit)) := by
  have e : (l.take (j + 1)).filter liveH = (l.take j).filter liveH ++ [l.getD j noHit] := by
    rw [List.take_add_one, List.getElem?_eq_getElem hj, List.filter_append, getD_of' hj]
    rw [getD_of' hj] at hx
    simp [liveH, hx]
  have hlt := d.lt
  have hc := d.len
  refine ⟨e, by simpa using d.len, ?_, ?_, by rw [e, List.length_append]; simp; omega⟩
  · rw [e, List.length_append, List.length_singleton, List.take_add_one, List.getElem?_set_self (by omega), List.take_set_of_le (Nat.le_refl _), d.fst]; rfl
  · rw [List.drop_set_of_lt (by omega)]
    have := congrArg (List.drop 1) d.lst
    simpa [List.drop_drop, Nat.add_comm] using this
theorem Del.start {l : List Hit} {i : Nat} (hi : i < l.length) (h : (l.take (i + 1)).filter liveH = l.take i) : Del l (i + 1) l ∧ ((l.take (i + 1)).filter liveH).length = i := by
  have e : ((l.take (i + 1)).filter liveH).length = i := by rw [h, List.length_take]; omega
  exact ⟨⟨rfl, by rw [e, h], rfl, by omega⟩, e⟩
theorem cHits_app2 (a b : List Hit) : cHits (a ++ b) = cHits a ++ cHits b := by simp [cHits]
theorem cHits_take {C : List Hit} {slack : List V} {k : Nat} (h : k ≤ C.length) : (cHits C ++ slack).take (k * 3) = cHits (C.take k) := by
  have e : cHits C = cHits (C.take k) ++ cHits (C.drop k) := by rw [← cHits_app2, List.take_append_drop]
  rw [e, List.append_assoc, List.take_append_of_le_length (by rw [cHits_len, List.length_take]; omega), List.take_of_length_le (by rw [cHits_len, List.length_take]; omega)]

theorem hitDel_calls (l : List Hit) (slack : List V) (hlen : l.length ≤ 1000000000000000) {id : Nat} {h0 : Hp} (hf : h0.fresh id) : ACalls prog G 34 [.bsl 3 id l.length, V.func (.func 35) [] []] (h0.setBox id (cHits l ++ slack)) fun r h' => r = .bsl 3 id (l.filter liveH).length ∧ ∃ X, h' = h0.setBox id X ∧ X.take ((l.filter liveH).length * 3) = cHits (l.filter liveH) ∧ (l.filter liveH).length * 3 ≤ X.length := by
  have hcl := cHits_len l
  have hfl : (l.filter liveH).length ≤ l.length := List.length_filter_le _ _
  refine ACalls.enter func34 rfl ntmps34 results34 rfl ?_
  refine .seq <|
    .region <|
    .aN rfl rfl <|
    .nil <|
    .seq <|
    .region ?_
  refine .u rfl rfl rfl (q_mv rfl (rfl : _ = _)) ?_
  refine .u rfl rfl rfl (q_mv rfl (rfl : _ = V.func _ _ _)) ?_
  refine .u rfl rfl rfl (QOp.call rfl call76 fun h' hl' => by exact hitIdx_calls l slack hlen (hl'.box _ _ (Hp.box_setBox _ _ _))) ?_
  refine .aI rfl rfl <|
    .nil <|
    .seq <|
    .seq <|
    .region <|
    .mI rfl rfl <|
    .qe rfl rfl rfl <|
    .nil ?_
  refine AW.cond rfl (fun c0 => ?_) (fun c0 => ?_)
  · rcases hitIdx_cases l with ⟨_, hfil⟩ | ⟨i0, e0, _, _⟩
    rotate_left
    · have : hitIdxF l = -1 := by simpa using c0
      omega
    refine .seq <|
      .region ?_
    refine .u rfl rfl rfl (q_mv rfl (rfl : _ = _)) ?_
    refine .u rfl rfl rfl (q_as rfl (rfl : _ = _)) ?_
    refine .nil ?_
    refine AW.ret ?_
    exact retQ.mk' (.one _) (VLe.of_eq (by rw [hfil]; rfl)) (HLe.refl _) ⟨rfl, _, rfl, by rw [hfil, List.take_append_of_le_length (by omega), List.take_of_length_le (by omega)], by rw [hfil, List.length_append]; omega⟩
  · rcases hitIdx_cases l with ⟨e0, _⟩ | ⟨i0, e0, hi0, hst⟩
    · rw [e0] at c0; cases c0
    obtain ⟨hD0, hk0⟩ := Del.start hi0 hst
    refine AW.weaken (T' := put (put (put T0 0 (V.bsl 3 id l.length)) 1 (V.func (.func 35) [] [])) 5 (V.int .i64 (i0 : Nat))) ?_ (TLe.put (d := 5) (VLe.of_eq (congrArg (V.int .i64) e0)) (TLe.put (d := 1) (VLe.refl _) (TLe.put (d := 0) (VLe.refl _) (TLe.zero _)))) (HLe.refl _)
    refine AW.skip ?_
    refine .seq <|
      .seq <|
      .region <|
      .mI rfl rfl <|
      .ad rfl rfl rfl (by omega) <|
      .aI rfl rfl <|
      .nil <|
      .block ?_
    refine AW.loop (fun n T hh => ∃ (j : Nat) (C : List Hit), j ≤ l.length ∧ n = l.length - j ∧ Del l j C ∧ T = put (put (put (put T0 0 (V.bsl 3 id l.length)) 1 (V.func (.func 35) [] [])) 5 (V.int .i64 ((l.take j).filter liveH).length)) 6 (V.int .i64 (j : Nat)) ∧ hh = h0.setBox id (cHits C ++ slack)) (l.length - (i0 + 1)) ?_ ?_
    · skip
      refine Wk.mk (TLe.put (d := 6) (VLe.refl _) (TLe.put (d := 5) (VLe.of_eq (congrArg (V.int .i64) (by rw [hk0]))) (TLe.put (d := 1) (VLe.refl _) (TLe.put (d := 0) (VLe.refl _) (TLe.zero _))))) (HLe.refl _) ⟨i0 + 1, l, by omega, rfl, hD0, rfl, rfl⟩
    · skip
      rintro n T h' ⟨j, C, hj, rfl, hD, rfl, rfl⟩
      have hlt2 := hD.lt
      have hCl := hD.len
      refine .seq <|
        .seq <|
        .region <|
        .mI rfl rfl ?_
      refine .u rfl rfl rfl (q_mv rfl (rfl : _ = _)) ?_
      refine .ln rfl underlying32 rfl <|
        .ql rfl rfl rfl <|
        .nil ?_
      refine AW.cond rfl (fun c1 => ?_) (fun c1 => ?_)
      · have hlt : j < l.length := by have := of_decide_eq_true c1; omega
        refine AW.skip ?_
        refine .seq <|
          .block <|
          .seq <|
          .region ?_
        refine .u rfl rfl rfl (q_mv rfl (rfl : _ = _)) ?_
        refine .mI rfl rfl ?_
        refine .u rfl rfl rfl (q_ia_bs rfl underlying32 sizeOf40 rfl rfl (by omega) (by omega)) ?_
        refine .u rfl rfl rfl (q_load_bN (ds := cHit (l.getD j noHit)) rfl isAgg40 sizeOf40 (by decide) rfl (Hp.box_setBox _ _ _) rfl (by rw [Int.toNat_natCast, ← hD.at hlt]; exact cHits_elem (by rw [hD.len]; exact hlt))) ?_
        refine AOps.s rfl rfl rfl (a_alloc rfl zeroValue40 rfl (fun id7 hid7 => ?_))
        refine .sw sizeOf40 rfl rfl rfl rfl ?_
        refine AOps.done 7 rfl hid7 ?_
        refine .nil <|
          .seq <|
          .region ?_
        refine .u rfl rfl rfl (q_mv rfl (rfl : _ = V.func _ _ _)) ?_
        refine .lw rfl isAgg40 sizeOf40 rfl rfl ?_
        refine .u rfl rfl rfl (QOp.callv rfl rfl call35 (fun h2 hl => hit0_calls _ h2)) ?_
        refine .nt rfl rfl <|
          .nil ?_
        refine AW.cond rfl (fun c2 => ?_) (fun c2 => ?_)
        · skip
          refine .seq <|
            .region ?_
          refine .u rfl rfl rfl (q_mv rfl (rfl : _ = _)) ?_
          refine .mI rfl rfl <|
            .lw rfl isAgg40 sizeOf40 rfl rfl ?_
          refine .u rfl rfl rfl (q_ia_bs rfl underlying32 sizeOf40 rfl rfl (by omega) (by omega)) ?_
          refine AOps.s0 rfl rfl (a_storeA rfl sizeOf40 rfl (by exact bsb) (rfl : _ = V.agg (cHit _)) rfl (by rw [List.length_append, cHits_len, hD.len, Int.toNat_natCast]; omega) ?_)
          refine .nil <|
            .region <|
            .mI rfl rfl <|
            .ad rfl rfl rfl (by omega) <|
            .aI rfl rfl <|
            .nil <|
            .region <|
            .mI rfl rfl <|
            .ad rfl rfl rfl (by omega) <|
            .aI rfl rfl <|
            .nil ?_
          first
          | (have hx : (l.getD j noHit).n ≠ 0 := (by simpa using c2)
             obtain ⟨e1, hD1⟩ := hD.yes hlt hx
             refine Wk.mk (TLe.put (d := 6) (VLe.refl _) (TLe.put (d := 5) (VLe.of_eq (congrArg (V.int .i64) (by rw [e1, List.length_append]; simp))) (TLe.put (d := 1) (VLe.refl _) (TLe.put (d := 0) (VLe.refl _) (TLe.zero _))))) (HLe.refl _) ⟨l.length - (j + 1), by omega, j + 1, _, by omega, rfl, hD1, rfl, by rw [Hp.setBox_setBox, Int.toNat_natCast, cHits_set (by omega)]⟩)
          | (have hx : (l.getD j noHit).n = 0 := (by simpa using c2)
             obtain ⟨e1, hD1⟩ := hD.no hlt hx
             refine Wk.mk (TLe.put (d := 6) (VLe.refl _) (TLe.put (d := 5) (VLe.of_eq (congrArg (V.int .i64) (by rw [e1]))) (TLe.put (d := 1) (VLe.refl _) (TLe.put (d := 0) (VLe.refl _) (TLe.zero _))))) (HLe.refl _) ⟨l.length - (j + 1), by omega, j + 1, _, by omega, rfl, hD1, rfl, rfl⟩)
        · skip
          refine AW.skip ?_
          refine .region <|
            .mI rfl rfl <|
            .ad rfl rfl rfl (by omega) <|
            .aI rfl rfl <|
            .nil ?_
          first
          | (have hx : (l.getD j noHit).n ≠ 0 := (by simpa using c2)
             obtain ⟨e1, hD1⟩ := hD.yes hlt hx
             refine Wk.mk (TLe.put (d := 6) (VLe.refl _) (TLe.put (d := 5) (VLe.of_eq (congrArg (V.int .i64) (by rw [e1, List.length_append]; simp))) (TLe.put (d := 1) (VLe.refl _) (TLe.put (d := 0) (VLe.refl _) (TLe.zero _))))) (HLe.refl _) ⟨l.length - (j + 1), by omega, j + 1, _, by omega, rfl, hD1, rfl, by rw [Hp.setBox_setBox, Int.toNat_natCast, cHits_set (by omega)]⟩)
          | (have hx : (l.getD j noHit).n = 0 := (by simpa using c2)
             obtain ⟨e1, hD1⟩ := hD.no hlt hx
             refine Wk.mk (TLe.put (d := 6) (VLe.refl _) (TLe.put (d := 5) (VLe.of_eq (congrArg (V.int .i64) (by rw [e1]))) (TLe.put (d := 1) (VLe.refl _) (TLe.put (d := 0) (VLe.refl _) (TLe.zero _))))) (HLe.refl _) ⟨l.length - (j + 1), by omega, j + 1, _, by omega, rfl, hD1, rfl, rfl⟩)
      · obtain rfl : j = l.length := by have := of_decide_eq_false c1; omega
        have hlt3 : ((l.take l.length).filter liveH).length < l.length := hlt2
        refine AW.exit ?_
        refine .seq <|
          .region ?_
        refine .u rfl rfl rfl (q_mv rfl (rfl : _ = _)) ?_
        refine .mI rfl rfl ?_
        refine .u rfl rfl rfl (q_slice_bl rfl underlying32 sizeOf40 rfl rfl hlt3 (by decide)) ?_
        refine AOps.s0 rfl rfl (a_clear (n := 3) rfl underlying32 zeroValue40 rfl rfl rfl (by omega) (Hp.box_setBox _ _ _) (by rw [List.length_append, cHits_len, hD.len]; omega) ?_)
        refine .nil <|
          .seq <|
          .region ?_
        refine .u rfl rfl rfl (q_mv rfl (rfl : _ = _)) ?_
        refine .mI rfl rfl ?_
        refine .u rfl rfl rfl (q_slice_bh rfl underlying32 sizeOf40 rfl rfl (by omega) (by omega)) ?_
        refine .u rfl rfl rfl (q_as rfl (rfl : _ = _)) ?_
        refine .nil ?_
        refine AW.ret ?_
        rw [List.take_length] at hlt3
        exact retQ.mk' (.one _) (VLe.of_eq (by show V.bsl 3 id ((l.take l.length).filter liveH).length = _; rw [List.take_length])) (HLe.refl _) ⟨rfl, _, by rw [Hp.setBox_setBox], by simp only [List.take_length]; rw [splice_eq _ _ _ (by rw [List.length_replicate, List.length_append, cHits_len, hD.len]; omega), List.append_assoc, List.take_append_of_le_length (by rw [List.length_take, List.length_append, cHits_len, hD.len]; omega), List.take_take, Nat.min_self, cHits_take (by omega)]; have hf1 := hD.fst; rw [List.take_length] at hf1; rw [hf1], by simp only [List.take_length]; rw [splice_length (by rw [List.length_replicate, List.length_append, cHits_len, hD.len]; omega), List.length_append, cHits_len, hD.len]; omega⟩

def allHitsF (s : St) : List Hit := (attackersF s).flatMap (hitsF s)
def allHitUp (s : St) (k : Nat) : List Hit := ((attackersF s).take k).flatMap (hitsF s)
/-- All hits of a state. -/
def strikesF (s : St) : List Hit := if checkF s ≠ 0 then [] else (allHitsF s).filter liveH
theorem allHit_all {s : St} : allHitUp s (attackersF s).length = allHitsF s := by rw [allHitUp, List.take_length]; rfl
theorem allHit_next {s : St} {k : Nat} (h : k < (attackersF s).length) : allHitUp s (k + 1) = allHitUp s k ++ hitsF s ((attackersF s).getD k 0) := by
  rw [allHitUp, List.take_add_one, List.getElem?_eq_getElem h, getD_of h, List.flatMap_append, allHitUp]; simp
theorem hits_len {s : St} {a : Int} : 0 < (hitsF s a).length ∧ (hitsF s a).length ≤ 2 * (s.lists 8).length + 1 := by
  have hb : (blockersF s a).length ≤ (s.lists 8).length := List.length_filter_le _ _
  unfold hitsF; split
  · simp
  · rw [List.length_append, hitBack_len]
    unfold hitFront
    rw [List.length_append, hitUp_len]
    split <;> simp <;> omega
theorem allHit_len {s : St} : ∀ k, (allHitUp s k).length ≤ k * (2 * (s.lists 8).length + 1)
  | 0 => by simp [allHitUp]
  | k + 1 => by
    have ih := allHit_len (s := s) k
    by_cases h : k < (attackersF s).length
    · rw [allHit_next h, List.length_append, Nat.add_mul, Nat.one_mul]
      have := (hits_len (s := s) (a := (attackersF s).getD k 0)).2
      omega
    · have e : allHitUp s (k + 1) = allHitUp s k := by
        rw [allHitUp, allHitUp, List.take_of_length_le (by omega), List.take_of_length_le (by omega)]
      rw [e, Nat.add_mul]; omega

theorem hitDelAll {l : List Hit} {h0 h : Hp} {v : V} (a : BAcc h0 3 l.length (cHits l) v h) (hlen : l.length ≤ 1000000000000000) : ACalls prog G 34 [v, V.func (.func 35) [] []] h fun r h' => (r = .snil ∧ l.filter liveH = [] ∧ h' = h0) ∨ ∃ id X, h0.fresh id ∧ r = .bsl 3 id (l.filter liveH).length ∧ h' = h0.setBox id X ∧ X.take ((l.filter liveH).length * 3) = cHits (l.filter liveH) ∧ (l.filter liveH).length * 3 ≤ X.length := by
  rcases a with ⟨_, ⟨rfl, _, e3, rfl⟩ | ⟨id, slack, f, rfl, rfl⟩⟩
  · have e : l = [] := List.eq_nil_of_length_eq_zero e3
    exact (hitDel_nil h).mono fun r h' ⟨a, b⟩ => .inl ⟨a, by rw [e]; rfl, b⟩
  · exact (hitDel_calls l slack hlen f).mono fun r h' ⟨a, X, b, c, d⟩ => .inr ⟨id, X, f, a, b, c, d⟩
theorem right_active {s : St} (h : checkF s = 0) : 0 ≤ s.game 1 ∧ s.game 1 ≤ 1 := by
  obtain ⟨a, b, c, d⟩ := right_parts h
  simp only [rangesF, Bool.and_eq_true] at b
  have := all_up.1 b.2 1 (by decide)
  simpa [inB, gHi] using this
theorem right_l8 {s : St} (h : checkF s = 0) : (s.lists 8).length ≤ 400 := by
  obtain ⟨a, b, c, d⟩ := right_parts h
  simp only [zonesF, Bool.and_eq_true, decide_eq_true_eq] at c
  have h1 := flat_ge (f := s.lists) (n := 11) (z := 8) (by decide)
  have h2 : (ids s).length ≤ 400 := by omega
  exact Nat.le_trans h1 h2

theorem strikes_calls (s : St) (hb : s.objs.length ≤ 1000000) (hl : ∀ z, (s.lists z).length ≤ 1000000) (h : Hp) : ACalls prog G 8 [eState s] h fun r h' => r = eHits (strikesF s) ∧ h' = h := by
  refine ACalls.enter func8 rfl ntmps8 results8 rfl ?_
  refine .seq <|
    .region <|
    .bx rfl rfl <|
    .aN rfl rfl <|
    .nil <|
    .seq <|
    .seq <|
    .region <|
    .lw rfl isAgg29 sizeOf29 rfl rfl ?_
  refine .u rfl rfl rfl (QOp.call rfl call32 fun h' hl' => by exact check_calls s hb hl h') ?_
  refine .u rfl rfl rfl (q_neerr underlying54 rfl rfl) ?_
  refine .nil ?_
  refine AW.cond rfl (fun c0 => ?_) (fun c0 => ?_)
  · skip
    refine .seq <|
      .region <|
      .aN rfl rfl <|
      .nil ?_
    refine AW.ret ?_
    exact retQ.mk' (.one _) (by rw [strikesF, if_pos (by simpa using c0)]; exact VLe.nilimm) (HLe.refl _) ⟨rfl, rfl⟩
  · have hc0 : checkF s = 0 := by simpa using c0
    obtain ⟨p1, p2, p3, p4⟩ := right_parts hc0
    have h8 : ∀ b ∈ s.lists 8, -1000000000 ≤ b ∧ b ≤ 1000000000 := fun b hbm => by have := right_ids p3 (by decide) b hbm; omega
    have hg := right_active hc0
    have hal : (attackersF s).length ≤ (s.lists 8).length := List.length_filter_le _ _
    have hl8 : (s.lists 8).length ≤ 400 := right_l8 hc0
    refine AW.skip ?_
    refine .seq <|
      .region <|
      .aN rfl rfl <|
      .nil <|
      .seq <|
      .seq <|
      .region <|
      .lw rfl isAgg29 sizeOf29 rfl rfl ?_
    refine .u rfl rfl rfl (QOp.call rfl call11 fun h' hl' => by exact attackers_calls s hb hl h') ?_
    refine .ln rfl underlying23 rfl <|
      .mI rfl rfl <|
      .nil <|
      .block ?_
    refine AW.loop (fun n T hh => ∃ (k : Nat) (v : V), k ≤ (attackersF s).length ∧ n = (attackersF s).length - k ∧ T = put (put (put (put (put (T0) 12 (V.int .i64 (k : Nat))) 11 (V.int .i64 (attackersF s).length)) 10 (eInts (attackersF s))) 3 (v)) 1 (V.iptr (cState s)) ∧ BAcc h 3 (allHitUp s k).length (cHits (allHitUp s k)) v hh) ((attackersF s).length) ?_ ?_
    · skip
      refine Wk.mk (TLe.put (d := 1) (VLe.refl _) (TLe.put (d := 3) (VLe.refl _) (TLe.put (d := 10) (VLe.refl _) (TLe.put (d := 11) (VLe.refl _) (TLe.put (d := 12) (by exact VLe.of_eq (congrArg (V.int .i64) (by first | rfl | omega))) (TLe.zero _)))))) (HLe.refl _) ⟨0, V.snil, Nat.zero_le _, rfl, rfl, by exact BAcc.nil h 3⟩
    · skip
      rintro n T h' ⟨k, v, hk, rfl, rfl, hem⟩
      refine .seq <|
        .region <|
        .ql rfl rfl rfl <|
        .nil <|
        .seq ?_
      refine AW.cond rfl (fun c1 => ?_) (fun c1 => ?_)
      · have hltk : k < (attackersF s).length := by have := of_decide_eq_true c1; omega
        have hhl := hits_len (s := s) (a := (attackersF s).getD k 0)
        have hul := allHit_len (s := s) k
        have hkm : k * (2 * (s.lists 8).length + 1) ≤ 400 * 801 := Nat.mul_le_mul (by omega) (by omega)
        refine AW.skip ?_
        refine .seq <|
          .block <|
          .seq <|
          .region ?_
        refine .u rfl rfl rfl (q_ia_s rfl underlying23 sizeOf3 rfl rfl (by omega) (by omega) (cInts_at hltk)) ?_
        refine .li rfl isAgg3 rfl rfl <|
          .aI rfl rfl <|
          .nil <|
          .region ?_
        refine .u rfl rfl rfl (q_mv rfl (rfl : _ = _)) ?_
        refine .lw rfl isAgg29 sizeOf29 rfl rfl <|
          .mI rfl rfl ?_
        refine .u rfl rfl rfl (QOp.call rfl call33 fun h' hl' => by exact hits_calls s ((attackersF s).getD k 0) (h8 _ (List.mem_filter.1 (getD_mem hltk)).1) hg hb hl h8 h') ?_
        refine AOps.s rfl rfl rfl (a_append_b rfl underlying32 (i := t40) (by kernel_rfl) rfl (n := 3) (by' := 24) rfl rfl rfl rfl hem rfl (cHits_len _) hhl.1 (by decide) (by omega) (by omega) rfl (fun v2 h2 h1 hle acc => ?_))
        refine AOps.wkn (TLe.refl _) hle ?_
        refine .u rfl rfl rfl (q_as rfl (rfl : _ = _)) ?_
        refine .nil <|
          .region <|
          .ad rfl rfl rfl (by omega) <|
          .mI rfl rfl <|
          .nil ?_
        refine Wk.mk (TLe.put (d := 1) (VLe.refl _) (TLe.put (d := 3) (VLe.refl _) (TLe.put (d := 10) (VLe.refl _) (TLe.put (d := 11) (VLe.refl _) (TLe.put (d := 12) (by exact VLe.of_eq (congrArg (V.int .i64) (by first | rfl | omega))) (TLe.zero _)))))) (HLe.refl _) ⟨_, ?_, k + 1, _, ?_, rfl, rfl, by rw [allHit_next hltk, cHits_app2, List.length_append]; exact acc⟩
        · omega
        · omega
      · obtain rfl : k = (attackersF s).length := by have := of_decide_eq_false c1; omega
        have hul := allHit_len (s := s) (attackersF s).length
        have hkm : (attackersF s).length * (2 * (s.lists 8).length + 1) ≤ 400 * 801 := Nat.mul_le_mul (by omega) (by omega)
        rw [allHit_all] at hem hul
        refine AW.exit ?_
        refine .seq <|
          .region ?_
        refine .u rfl rfl rfl (q_mv rfl (rfl : _ = v)) ?_
        refine AOps.s rfl rfl rfl ((AStep.call rfl (by exact call34) (hitDelAll hem (by omega))).mono ?_)
        rintro x9 h9 hdl
        obtain ⟨rfl, hno, rfl⟩ | ⟨id, X, hid, rfl, rfl, hX1, hX2⟩ := hdl
        · refine AOps.wkn (T' := put _ 23 (eHits ((allHitsF s).filter liveH))) (TLe.put (d := 23) (by rw [hno]; exact VLe.nilimm) (TLe.refl _)) (HLe.refl _) ?_
          refine .aS rfl rfl <|
            .nil ?_
          refine AW.ret ?_
          exact retQ.mk' (.one _) (by rw [strikesF, if_neg (by simpa using c0)]; exact VLe.refl _) (HLe.refl _) ⟨rfl, rfl⟩
        refine AOps.stayB (d := 23) rfl (Hp.box_setBox _ _ _) (HLe.setBox hid.1) hid.1 hX2 ?_
        refine .aS rfl rfl <|
          .nil ?_
        refine AW.ret ?_
        exact retQ.mk' (.one _) (by rw [strikesF, if_neg (by simpa using c0), hX1]; exact VLe.refl _) (HLe.refl _) ⟨rfl, rfl⟩

end Go.Proofs.YtijhmlkffkedeaaGreatDoor
/- Walks: the document's emitter: one event; setting; showing. -/
namespace Go.Proofs.YtijhmlkffkedeaaGreatDoor
open Go Go.AV Go.Proofs.Tryz
set_option maxRecDepth 100000
set_option maxHeartbeats 1000000
end Go.Proofs.YtijhmlkffkedeaaGreatDoor
/- Walks: the document's emitter: one event; setting; showing. -/
namespace Go.Proofs.YtijhmlkffkedeaaGreatDoor
open Go Go.AV Go.Proofs.Tryz
set_option maxRecDepth 100000
set_option maxHeartbeats 1000000
def sml (n : Int) : Prop := -1073741824 ≤ n ∧ n ≤ 1073741824
structure Sm (s : St) : Prop where
  o : ∀ i f, f < 18 → sml (s.objs.getD i noObj f)
  p : ∀ p f, p < 2 → f < 9 → sml (s.pl p f)
  g : ∀ f, f < 7 → sml (s.game f)
theorem getD_set {l : List Obj} {a i : Nat} {o : Obj} : (l.set a o).getD i noObj = if a = i ∧ a < l.length then o else l.getD i noObj := by
  simp only [List.getD_eq_getElem?_getD, List.getElem?_set]
  by_cases e : a = i
  · subst e; by_cases g : a < l.length <;> simp [g]
  · simp [e]
theorem sm_set {l : List Obj} {a b : Nat} {v : Int} (h : ∀ i f, f < 18 → sml (l.getD i noObj f)) (hv : sml v) : ∀ i f, f < 18 → sml ((l.set a (upd (l.getD a noObj) b v)).getD i noObj f) := by
  intro i f hf
  rw [getD_set]; split
  · unfold upd; split
    · exact hv
    · exact h a f hf
  · exact h i f hf
theorem evCheck_sml {x : Ev} (h : evCheck x = 0) (e : x.k ≠ 0 ∧ x.k ≠ 5 ∧ x.k ≠ 1) : sml x.d := by
  unfold evCheck at h
  split at h
  · cases h
  · split at h
    · cases h
    · split at h
      · cases h
      · rename_i h1 h2 h3
        simp only [Bool.not_eq_false] at h3
        have : small x.d = true := by
          unfold evRanges at h3
          rw [if_neg (by omega), if_neg (by omega)] at h3
          split at h3
          · simp only [Bool.and_eq_true] at h3; exact h3.2
          · split at h3
            · simp only [Bool.and_eq_true] at h3; exact h3.2
            · simp only [Bool.and_eq_true] at h3; exact h3.2
        simpa [small, sml] using this
theorem moveF_sm {s : St} {x : Ev} (hx : MoveOk x) (h : Sm s) : Sm (moveF s x).1 := by
  by_cases h0 : (s.objs.length : Int) ≤ x.a
  · rw [moveF, if_pos h0]; exact h
  · cases h1 : (bif (removeF (s.lists x.b.toNat) x.c).2.2 != 0 then true else (removeF (s.lists x.b.toNat) x.c).2.1 != x.a) with
    | true => rw [move_bad h0 h1]; exact h
    | false =>
      by_cases h2 : (insertF (if x.d = x.b then (removeF (s.lists x.b.toNat) x.c).1 else s.lists x.d.toNat) x.e x.a).2 = 0
      · rw [move_ok h0 h1 rfl h2]; exact ⟨sm_set h.o (by have := hx.d; unfold sml; omega), h.p, h.g⟩
      · rw [move_err h0 h1 rfl h2]; exact h
theorem madeF_sm {x : Ev} (h : 0 ≤ x.a ∧ x.a < 120 ∧ 0 ≤ x.b ∧ x.b < 2 ∧ 0 ≤ x.c ∧ x.c < 3) (f : Nat) : sml (madeF x f) := by
  unfold madeF sml; split <;> omega
theorem evCheck_make {x : Ev} (h : evCheck x = 0) (e : x.k = 0 ∨ x.k = 5) : (0 ≤ x.a ∧ x.a < 120 ∧ 0 ≤ x.b ∧ x.b < 2 ∧ 0 ≤ x.c ∧ x.c < 3) ∧ x.d = 0 ∧ x.e = 0 := by
  unfold evCheck at h
  split at h
  · cases h
  · split at h
    · cases h
    · split at h
      · cases h
      · rename_i h1 h2 h3
        simp only [Bool.not_eq_false] at h3 h2
        have hm : evMakes x = true := by rcases e with e | e <;> simp [evMakes, e]
        rw [evSpare, if_pos hm] at h2
        rw [evRanges, if_pos e] at h3
        simp [inN] at h2 h3; omega
theorem evDo_sm {s : St} {x : Ev} (h : Sm s) : Sm (evDo s x).1 := by
  unfold evDo
  split
  · exact h
  · rename_i hc
    have hc : evCheck x = 0 := by simpa using hc
    have ok := evCheck_ok hc
    split
    · rename_i e
      split
      · exact h
      · refine ⟨fun i f hf => ?_, h.p, h.g⟩
        simp only [List.getD_eq_getElem?_getD]
        by_cases hi : i < s.objs.length
        · rw [List.getElem?_append_left hi]; have := h.o i f hf; simpa [List.getD_eq_getElem?_getD] using this
        · by_cases hi2 : i = s.objs.length
          · subst hi2; simp; exact madeF_sm (evCheck_make hc (.inl e)).1 f
          · rw [List.getElem?_eq_none (by simp; omega)]; simp [noObj, sml]
    · split
      · rename_i e; exact moveF_sm (ok.2.1 e) h
      · split
        · split
          · exact h
          · split
            · exact h
            · exact ⟨sm_set h.o (evCheck_sml hc (by omega)), h.p, h.g⟩
        · split
          · split
            · exact h
            · refine ⟨h.o, fun p f hp hf => ?_, h.g⟩
              have := evCheck_sml hc (by omega)
              simp only [upd]; split
              · simp only [upd]; split
                · exact this
                · exact h.p _ f (by omega) hf
              · exact h.p p f hp hf
          · split
            · exact h
            · refine ⟨h.o, h.p, fun f hf => ?_⟩
              simp only [upd]; split
              · by_cases e5 : x.k = 5
                · rw [(evCheck_make hc (.inr e5)).2.1]; unfold sml; omega
                · exact evCheck_sml hc (by omega)
              · exact h.g f hf
def gCells (g : Em) (ve vp : V) : List V := cState g.now ++ [eInts g.draws, ve, vp, .int .i64 g.err]
def GAt (h0 : Hp) (id : Nat) (g : Em) (h : Hp) : Prop := ∃ ve vp, EmR h0 id g ve vp ∧ h = (addTok ve (addTok vp h0)).setBox id (gCells g ve vp)
theorem GAt.le {h0 : Hp} {id : Nat} {g : Em} {h : Hp} (e : GAt h0 id g h) : HLe h h0 := by
  obtain ⟨ve, vp, r, rfl⟩ := e; exact r.le _
/-- What holds of it beside. -/
structure GI (g : Em) : Prop where
  inv : EmI g
  ob : g.now.objs.length ≤ 1000000
  ls : ∀ z, (g.now.lists z).length ≤ 1000000
def Em.rdo (g : Em) (x : Ev) : Em :=
  if g.err ≠ 0 then g
  else if (evDo g.now x).2 ≠ 0 then ⟨g.now, g.draws, g.evs, g.pend, (evDo g.now x).2⟩
  else if g.evs.length < 65536 then ⟨appSt g.now x, g.draws, g.evs ++ [x], g.pend, g.err⟩ else ⟨g.now, g.draws, g.evs, g.pend, 5⟩
theorem rdo_inv {g : Em} {x : Ev} (hk : x.k ≠ 0) (h : GI g) : GI (g.rdo x) := by
  unfold Em.rdo
  split
  · exact h
  · rename_i h0
    have h0 : g.err = 0 := by simpa using h0
    split
    · rename_i h1; exact ⟨⟨fun e => absurd e h1, h.inv.evs⟩, h.ob, h.ls⟩
    · split
      · rename_i h1 h2
        have ha : appSt g.now x = (evDo g.now x).1 := by rw [appSt, if_pos (by simpa using h1)]
        have hz : Sz (evDo g.now x).1 := evDo_sz hk (h.inv.sz h0)
        exact ⟨⟨fun _ => by rw [ha]; exact hz, by simp; omega⟩, by simp only [ha]; have := hz.objs; omega, fun z => by simp only [ha]; have := hz.lists z; omega⟩
      · exact ⟨⟨(fun e => by cases e), h.inv.evs⟩, h.ob, h.ls⟩
theorem rdo_sm {g : Em} {x : Ev} (h : Sm g.now) : Sm (g.rdo x).now := by
  unfold Em.rdo
  split
  · exact h
  · split
    · exact h
    · split
      · rename_i h1 _
        show Sm (appSt g.now x)
        rw [appSt, if_pos (by simpa using h1)]; exact evDo_sm h
      · exact h
theorem rdo_full {b : Int} {n : Nat} (c : (bif b == 0 then decide ((65536 : Int) ≤ n) else false) = true) : b = 0 ∧ 65536 ≤ n := by
  cases h : b == 0
  · rw [h] at c; cases c
  · rw [h] at c; simp at h c; omega
theorem rdo_room {b : Int} {n : Nat} (c : (bif b == 0 then decide ((65536 : Int) ≤ n) else false) = false) (h : b = 0) : n < 65536 := by
  subst h; simp at c; omega

theorem rdo_calls (x : Ev) (hk : x.k ≠ 0 ∧ x.k ≠ 5) {h0 : Hp} {id : Nat} {g : Em} {h : Hp} (he : GAt h0 id g h) (hI : GI g) : ACalls prog G 91 [.ptr id 0, eEv x] h fun r h' => r = .tup [] ∧ GAt h0 id (g.rdo x) h' := by
  obtain ⟨ve, vp, hr, rfl⟩ := he
  have hev := hI.inv.evs
  refine ACalls.enter func91 rfl ntmps91 results91 rfl ?_
  refine .seq <|
    .region <|
    .bx rfl rfl <|
    .nil <|
    .seq <|
    .seq <|
    .region <|
    .mP rfl rfl <|
    .nP rfl rfl <|
    .fb rfl f78_40 rfl rfl <|
    .lb rfl isAgg3 rfl rfl <|
    .qn rfl rfl rfl <|
    .nil ?_
  refine AW.cond rfl (fun c0 => ?_) (fun c0 => ?_)
  · skip
    refine AW.ret ?_
    exact retQ.mk .none ⟨rfl, by rw [Em.rdo, if_pos (by simpa using c0)]; exact ⟨ve, vp, hr, rfl⟩⟩
  · have he1 : g.err = 0 := by simpa using c0
    refine AW.skip ?_
    refine .seq ?_
    refine AW.draw [10] [8] [(0, true), (1, true), (2, true), (3, true), (4, true), (5, true), (6, true), (7, true), (8, true), (9, false), (10, false), (11, true)] mixed (by kernel_rfl) rfl (by kernel_rfl) ?_
    refine .q rfl rfl rfl rfl (q_mv rfl (rfl : _ = V.ptr _ _)) ?_
    refine .q rfl rfl rfl rfl (q_nc rfl (rfl : _ = V.ptr _ _) rfl) ?_
    refine .q rfl rfl rfl rfl (q_fa_b rfl underlying78 rfl (by exact sizeOf29) (by decide) rfl (rfl : _ = 0)) ?_
    refine .q rfl rfl rfl rfl (q_load_bN (ds := cState g.now) rfl isAgg29 sizeOf29 (by decide) rfl (by exact bsb) rfl rfl) ?_
    refine .q rfl rfl rfl rfl (q_load_iW rfl isAgg129 sizeOf129 rfl (by rfl)) ?_
    refine .q rfl rfl rfl rfl (QOp.call rfl (by exact call118) fun h' hl' => by exact refApply_calls g.now x hk hI.ob hI.ls h') ?_
    refine .q rfl rfl rfl rfl (q_mv rfl (rfl : _ = V.tup _)) ?_
    refine .q rfl rfl rfl rfl (q_extract rfl rfl rfl) ?_
    refine .p rfl rfl rfl (fun _ => q_extract rfl rfl rfl) ?_
    refine AOrd.s' rfl rfl rfl (a_alloc rfl zeroValue29 rfl (fun id4 hid4 => ⟨?_, HLe.setBox hid4.1⟩))
    refine AOrd.s0 rfl rfl rfl rfl (a_storeA rfl sizeOf29 rfl (by exact bsb) (rfl : _ = V.agg _) rfl (by first | decide | exact Nat.le_of_ble_eq_true rfl) ?_)
    refine .q rfl rfl rfl rfl (q_as rfl (rfl : _ = V.int _ _)) ?_
    refine AOrd.nil ?_
    refine .seq <|
      .seq ?_
    refine AW.hp (h' := ((addTok ve (addTok vp h0)).setBox id (gCells g ve vp)).setBox id4 (cState (appSt g.now x))) (by rw [Hp.setBox_setBox]; rfl) ?_
    refine AW.done 4 rfl hid4 ?_
    refine .region <|
      .mI rfl rfl <|
      .qe rfl rfl rfl <|
      .mB rfl rfl ?_
    refine .gt rfl rfl rfl (fun _ => tl0) (fun hc => q_mv rfl (rfl : _ = V.ptr _ _)) ?_
    refine .gt rfl rfl rfl (fun hc => tl1 23 (.opt hc)) (fun hc => q_nc rfl (rfl : _ = V.ptr _ _) rfl) ?_
    refine .gt rfl rfl rfl (fun hc => tl1 24 (.opt hc)) (fun hc => q_fa_b rfl underlying78 rfl (by exact sizeOf70) (by decide) rfl (rfl : _ = 38)) ?_
    refine .gt rfl rfl rfl (fun hc => tl1 25 (.opt hc)) (fun hc => q_load_b1 rfl isAgg70 rfl (by exact bsb) rfl) ?_
    refine .gt rfl rfl rfl (fun hc => tl1 26 (.opt hc)) (fun hc => q_len rfl underlying70 (by exact hr.ae.len?)) ?_
    refine .gt rfl rfl rfl (fun hc => tl1 27 (.opt hc)) (fun hc => q_ge rfl rfl rfl) ?_
    refine .pt rfl rfl rfl rfl <|
      .nil ?_
    refine AW.cond rfl (fun c1 => ?_) (fun c1 => ?_)
    · skip
      refine .region <|
        .aI rfl rfl <|
        .nil <|
        .seq <|
        .seq <|
        .region <|
        .mI rfl rfl <|
        .qn rfl rfl rfl <|
        .nil ?_
      refine AW.cond rfl (fun c2 => ?_) (fun c2 => ?_)
      · skip
        refine .seq <|
          .region <|
          .mP rfl rfl <|
          .mI rfl rfl <|
          .nP rfl rfl <|
          .fb rfl f78_40 rfl rfl ?_
        refine AOps.s0 rfl rfl (a_store1 rfl sizeOf3 rfl (by exact bsb) (rfl : _ = V.int _ _) rfl rfl (by first | decide | exact Nat.le_of_ble_eq_true rfl) ?_)
        refine .nil ?_
        refine AW.ret ?_
        obtain ⟨h2, h3⟩ := rdo_full c1
        exact retQ.mk .none ⟨rfl, by rw [Em.rdo, if_neg (by simpa using he1), if_neg (by simpa using h2), if_neg (by omega), Hp.setBox_setBox]; exact ⟨ve, vp, ⟨hr.ae, hr.ap, hr.fp, hr.fe, hr.fi⟩, rfl⟩⟩
      · cases c2
    · skip
      refine AW.skip ?_
      refine .seq <|
        .seq <|
        .region <|
        .mI rfl rfl <|
        .qn rfl rfl rfl <|
        .nil ?_
      refine AW.cond rfl (fun c3 => ?_) (fun c3 => ?_)
      · skip
        refine .seq <|
          .region <|
          .mP rfl rfl <|
          .mI rfl rfl <|
          .nP rfl rfl <|
          .fb rfl f78_40 rfl rfl ?_
        refine AOps.s0 rfl rfl (a_store1 rfl sizeOf3 rfl (by exact bsb) (rfl : _ = V.int _ _) rfl rfl (by first | decide | exact Nat.le_of_ble_eq_true rfl) ?_)
        refine .nil ?_
        refine AW.ret ?_
        exact retQ.mk .none ⟨rfl, by rw [Em.rdo, if_neg (by simpa using he1), if_pos (by simpa using c3), Hp.setBox_setBox]; exact ⟨ve, vp, ⟨hr.ae, hr.ap, hr.fp, hr.fe, hr.fi⟩, rfl⟩⟩
      · skip
        refine AW.skip ?_
        refine .seq <|
          .region <|
          .mP rfl rfl <|
          .lw rfl isAgg29 sizeOf29 rfl rfl <|
          .nP rfl rfl <|
          .fb rfl f78_0 rfl rfl ?_
        refine AOps.s0 rfl rfl (a_storeA rfl sizeOf29 rfl (by exact bsb) (rfl : _ = V.agg _) rfl (by first | decide | exact Nat.le_of_ble_eq_true rfl) ?_)
        refine .nil ?_
        refine AW.hp (h' := (addTok ve (addTok vp h0)).setBox id (gCells ⟨appSt g.now x, g.draws, g.evs, g.pend, g.err⟩ ve vp)) (by rw [Hp.setBox_setBox]; rfl) ?_
        refine AW.draw [7, 10] [0, 1, 2, 3, 5, 8] [(0, true), (1, true), (2, true), (3, true), (4, true), (5, true), (6, true), (7, false), (8, true), (9, true), (10, false)] mixed (by kernel_rfl) rfl (by kernel_rfl) ?_
        refine .p rfl rfl rfl (fun _ => q_mv rfl (rfl : _ = V.ptr _ _)) ?_
        refine .p rfl rfl rfl (fun _ => q_mv rfl (rfl : _ = V.ptr _ _)) ?_
        refine .p rfl rfl rfl (fun _ => q_nc rfl (rfl : _ = V.ptr _ _) rfl) ?_
        refine .p rfl rfl rfl (fun _ => q_fa_b rfl underlying78 rfl (by exact sizeOf70) (by decide) rfl (rfl : _ = 38)) ?_
        refine .q rfl rfl rfl rfl (q_load_b1 rfl isAgg70 rfl (by exact bsb) rfl) ?_
        refine .p rfl rfl rfl (fun _ => q_load_iW rfl isAgg129 sizeOf129 rfl (by rfl)) ?_
        refine .q rfl rfl rfl rfl (q_buildSl rfl underlying70 sizeOf129 zeroValue129 rfl rfl rfl rfl rfl) ?_
        refine AOrd.s rfl rfl rfl rfl (a_append rfl underlying70 (i := t129) (by kernel_rfl) rfl (n := 6) (by' := 48) rfl rfl rfl rfl (em_acc_e hr _) rfl rfl (by decide) (by show (g.evs.length + 1) * 48 ≤ _; omega) (by show g.evs.length + 1 ≤ _; omega) rfl (fun v3 h3 acc => ?_))
        obtain ⟨hb3, hc3, hs3, hr3⟩ := em_app_e hr acc (appSt g.now x) g.err
        refine .p rfl rfl rfl (fun _ => q_nc rfl (rfl : _ = V.ptr _ _) rfl) ?_
        refine .q rfl rfl rfl rfl (q_fa_b rfl underlying78 rfl (by exact sizeOf70) (by decide) rfl (rfl : _ = 38)) ?_
        refine AOrd.s0 rfl rfl rfl rfl (a_store1 rfl sizeOf70 rfl (by exact hb3) (rfl : _ = v3) hc3.1 hc3.2 (by exact Nat.le_of_ble_eq_true rfl) ?_)
        refine AOrd.nil ?_
        have h2 : (evDo g.now x).2 = 0 := by simpa using c3
        exact retQ.mk .none ⟨rfl, by rw [Em.rdo, if_neg (by simpa using he1), if_neg (by simpa using h2), if_pos (rdo_room c1 h2)]; exact ⟨v3, vp, hr3, hs3 _⟩⟩

def Em.rset (g : Em) (i f n : Int) : Em :=
  if evCheck ⟨2, i, f, 0, n, 0⟩ = 0 ∧ i < g.now.objs.length then (if g.now.objs.getD i.toNat noObj f.toNat = n then g else g.rdo ⟨2, i, f, g.now.objs.getD i.toNat noObj f.toNat, n, 0⟩) else g.rdo ⟨2, i, f, 0, n, 0⟩
theorem rset_inv {g : Em} {i f n : Int} (h : GI g) : GI (g.rset i f n) := by
  unfold Em.rset; split
  · split
    · exact h
    · exact rdo_inv (by simp) h
  · exact rdo_inv (by simp) h
theorem rset_sm {g : Em} {i f n : Int} (h : Sm g.now) : Sm (g.rset i f n).now := by
  unfold Em.rset; split
  · split
    · exact h
    · exact rdo_sm h
  · exact rdo_sm h
theorem and_bits {a b : Bool} (h : (bif a then b else false) = true) : a = true ∧ b = true := by cases a <;> simp_all
theorem rset_calls (i f n : Int) {h0 : Hp} {id : Nat} {g : Em} {h : Hp} (he : GAt h0 id g h) (hI : GI g) : ACalls prog G 50 [.ptr id 0, .int .i64 i, .int .i64 f, .int .i64 n] h fun r h' => r = .tup [] ∧ GAt h0 id (g.rset i f n) h' := by
  obtain ⟨ve, vp, hr, rfl⟩ := he
  refine ACalls.enter func50 rfl ntmps50 results50 rfl ?_
  refine .seq <|
    .region <|
    .mI rfl rfl <|
    .mI rfl rfl <|
    .mI rfl rfl ?_
  refine .u rfl rfl rfl (q_buildS (ds := cEv ⟨2, i, f, 0, n, 0⟩) rfl zeroValue129 underlying129 (pl129 underlying129) rfl (by kernel_rfl)) ?_
  refine AOps.s rfl rfl rfl (a_alloc rfl zeroValue129 rfl (fun id8 hid8 => ?_))
  refine .sw sizeOf129 rfl rfl rfl rfl <|
    .nil <|
    .seq <|
    .seq ?_
  have ne8 : id ≠ id8 := Hp.ne_of_box (Hp.box_setBox _ _ _) hid8.1
  refine .region ?_
  refine .u rfl rfl rfl (q_load_bW rfl isAgg129 sizeOf129 (by decide) rfl (by first | exact Hp.box_setBox _ _ _ | exact (Hp.box_setBox_ne _ _ ne8).trans (Hp.box_setBox _ _ _)) (by rfl)) ?_
  refine .u rfl rfl rfl (QOp.call rfl call90 fun h' hl' => by exact refEv_calls ⟨2, i, f, 0, n, 0⟩ h') ?_
  refine .qe rfl rfl rfl <|
    .mB rfl rfl ?_
  refine .gt rfl rfl rfl (fun _ => tl0) (fun hc => q_mv rfl (rfl : _ = V.int _ _)) ?_
  refine .gt rfl rfl rfl (fun _ => tl0) (fun hc => q_mv rfl (rfl : _ = V.ptr _ _)) ?_
  refine .gt rfl rfl rfl (fun hc => tl1 18 (.opt hc)) (fun hc => q_nc rfl (rfl : _ = V.ptr _ _) rfl) ?_
  refine .gt rfl rfl rfl (fun hc => tl1 19 (.opt hc)) (fun hc => q_fa_b rfl underlying78 rfl (by exact sizeOf29) (by decide) rfl (rfl : _ = 0)) ?_
  refine .gt rfl rfl rfl (fun hc => tl1 20 (.opt hc)) (fun hc => q_fa_b rfl underlying29 rfl (by exact sizeOf22) (by decide) rfl (rfl : _ = 0)) ?_
  refine .gt rfl rfl rfl (fun hc => tl1 21 (.opt hc)) (fun hc => q_load_b1 rfl isAgg22 rfl (by first | exact Hp.box_setBox _ _ _ | exact (Hp.box_setBox_ne _ _ ne8).trans (Hp.box_setBox _ _ _)) rfl) ?_
  refine .gt rfl rfl rfl (fun hc => tl1 22 (.opt hc)) (fun hc => q_len rfl underlying22 rfl) ?_
  refine .gt rfl rfl rfl (fun hc => tl2 23 17 (.opt hc) (.opt hc)) (fun hc => q_lt rfl rfl rfl) ?_
  refine .pt rfl rfl rfl rfl <|
    .nil ?_
  refine AW.cond rfl (fun c0 => ?_) (fun c0 => ?_)
  · obtain ⟨hc, hlt⟩ := and_bits c0
    have hc : evCheck ⟨2, i, f, 0, n, 0⟩ = 0 := by simpa using hc
    have hlt : i < g.now.objs.length := by simpa using hlt
    have ok := (evCheck_ok hc).2.2.1 rfl
    have ok1 : 0 ≤ i := ok.1
    have ok2 : 0 ≤ f := ok.2.1
    have ok3 : f < 18 := ok.2.2
    refine .seq <|
      .region <|
      .mP rfl rfl <|
      .nP rfl rfl <|
      .fb rfl f78_0 rfl rfl <|
      .fb rfl f29_0 rfl rfl ?_
    refine .u rfl rfl rfl (q_load_b1 rfl isAgg22 rfl (by first | exact Hp.box_setBox _ _ _ | exact (Hp.box_setBox_ne _ _ ne8).trans (Hp.box_setBox _ _ _)) rfl) ?_
    refine .mI rfl rfl <|
      .mI rfl rfl ?_
    refine .u rfl rfl rfl (q_ia_s rfl underlying22 sizeOf58 rfl rfl (by omega) (by omega) (cObjs_elem' (by omega) (by omega))) ?_
    refine .u rfl rfl rfl (q_ia_ai rfl underlying58 sizeOf3 rfl rfl (by omega) (by omega) rfl) ?_
    refine .u rfl rfl rfl (q_load_i1 rfl isAgg3 rfl (objp_ix ok2 ok3)) ?_
    refine .fb rfl f129_3 rfl rfl ?_
    refine AOps.s0 rfl rfl (a_store1 rfl sizeOf3 rfl (by first | exact Hp.box_setBox _ _ _ | exact (Hp.box_setBox_ne _ _ ne8).trans (Hp.box_setBox _ _ _)) (rfl : _ = V.int _ _) rfl rfl (by first | decide | exact Nat.le_of_ble_eq_true rfl) ?_)
    refine .nil <|
      .seq <|
      .region <|
      .fb rfl f129_3 rfl rfl ?_
    refine .u rfl rfl rfl (q_load_b1 rfl isAgg3 rfl (by first | exact Hp.box_setBox _ _ _ | exact (Hp.box_setBox_ne _ _ ne8).trans (Hp.box_setBox _ _ _)) rfl) ?_
    refine .mI rfl rfl <|
      .qe rfl rfl rfl <|
      .nil ?_
    refine AW.cond rfl (fun c1 => ?_) (fun c1 => ?_)
    · skip
      refine AW.ret ?_
      exact retQ.mk' .none (VLe.refl _) (HLe.over (HLe.setBox hid8.1) hid8.1) ⟨rfl, by rw [Em.rset, if_pos ⟨hc, hlt⟩, if_pos (by simpa using c1)]; exact ⟨ve, vp, hr, rfl⟩⟩
    · skip
      refine AW.skip ?_
      first | (refine AW.hp (h' := ((addTok ve (addTok vp h0)).setBox id (gCells g ve vp)).setBox id8 (cEv ⟨2, i, f, g.now.objs.getD i.toNat noObj f.toNat, n, 0⟩)) (by first | rfl | (rw [Hp.setBox_setBox]; rfl)) ?_; refine AW.done 8 rfl hid8 ?_) | (refine AW.hp (h' := ((addTok ve (addTok vp h0)).setBox id (gCells g ve vp)).setBox id8 (cEv ⟨2, i, f, 0, n, 0⟩)) (by first | rfl | (rw [Hp.setBox_setBox]; rfl)) ?_; refine AW.done 8 rfl hid8 ?_)
      refine .region <|
        .mP rfl rfl <|
        .lw rfl isAgg129 sizeOf129 rfl rfl ?_
      refine AOps.s rfl rfl rfl ((AStep.call rfl (by exact call91) (rdo_calls ⟨2, i, f, _, n, 0⟩ (by simp) ⟨ve, vp, hr, rfl⟩ hI)).mono ?_)
      rintro x3 h3 ⟨rfl, he3⟩
      refine .nil ?_
      exact retQ.mk .none ⟨rfl, by rw [Em.rset, if_pos ⟨hc, hlt⟩, if_neg (by simpa using c1)]; exact he3⟩
  · have hno : ¬ (evCheck ⟨2, i, f, 0, n, 0⟩ = 0 ∧ i < g.now.objs.length) := fun ⟨a, b⟩ => by simp [a, b] at c0
    refine AW.skip ?_
    first | (refine AW.hp (h' := ((addTok ve (addTok vp h0)).setBox id (gCells g ve vp)).setBox id8 (cEv ⟨2, i, f, g.now.objs.getD i.toNat noObj f.toNat, n, 0⟩)) (by first | rfl | (rw [Hp.setBox_setBox]; rfl)) ?_; refine AW.done 8 rfl hid8 ?_) | (refine AW.hp (h' := ((addTok ve (addTok vp h0)).setBox id (gCells g ve vp)).setBox id8 (cEv ⟨2, i, f, 0, n, 0⟩)) (by first | rfl | (rw [Hp.setBox_setBox]; rfl)) ?_; refine AW.done 8 rfl hid8 ?_)
    refine .region <|
      .mP rfl rfl <|
      .lw rfl isAgg129 sizeOf129 rfl rfl ?_
    refine AOps.s rfl rfl rfl ((AStep.call rfl (by exact call91) (rdo_calls ⟨2, i, f, _, n, 0⟩ (by simp) ⟨ve, vp, hr, rfl⟩ hI)).mono ?_)
    rintro x3 h3 ⟨rfl, he3⟩
    refine .nil ?_
    exact retQ.mk .none ⟨rfl, by rw [Em.rset, if_neg hno]; exact he3⟩

end Go.Proofs.YtijhmlkffkedeaaGreatDoor
/- Walks: what an emitter gives a player. -/
namespace Go.Proofs.YtijhmlkffkedeaaGreatDoor
open Go Go.AV Go.Proofs.Tryz
set_option maxRecDepth 100000
set_option maxHeartbeats 1000000
def btw (n a b : Int) : Int := max (min n b) a
def Em.playerF (m : Em) (p f n : Int) : Em :=
  if m.err ≠ 0 then m
  else if evCheck ⟨3, p, f, 0, 0, 0⟩ ≠ 0 then m.doL [⟨3, p, f, 0, 0, 0⟩]
  else m.set ⟨3, p, f, 0, 0, 0⟩ (m.now.pl p.toNat f.toNat) n
def isP (p : Int) : Bool := p == 0 || p == 1
def Em.lifeF (m : Em) (p more : Int) : Em :=
  if m.err ≠ 0 then m
  else if isP p = false then m.fail 1
  else m.playerF p 0 (btw (m.now.pl p.toNat 0 + btw more (-2147483648) 2147483648) (-1073741824) 1073741824)
/-- What is small while nothing failed. -/
def EmS (m : Em) : Prop := m.err = 0 → Sm m.now
theorem do1_s {m : Em} {x : Ev} (h : EmS m) : EmS (m.do1 x) := by
  unfold Em.do1
  split
  · exact h
  · rename_i h0
    have h0 : m.err = 0 := by simpa using h0
    split
    · rename_i h1; exact fun e => absurd e h1
    · split
      · exact fun _ => evDo_sm (h h0)
      · exact fun e => by cases e
theorem doL_s {m : Em} {l : List Ev} (h : EmS m) : EmS (m.doL l) := by
  induction l generalizing m with
  | nil => exact h
  | cons x l ih => exact ih (m := m.do1 x) (do1_s h)
theorem fail_s {m : Em} {e : Int} (h : EmS m) : EmS (m.fail e) := by
  unfold Em.fail; split
  · rename_i h0; exact fun _ => h h0
  · exact h
theorem set_s {m : Em} {e : Ev} {a b : Int} (h : EmS m) : EmS (m.set e a b) := by
  unfold Em.set; split
  · exact fail_s h
  · exact doL_s h
theorem setF_s {m : Em} {i f n : Int} (h : EmS m) : EmS (m.setF i f n) := by
  unfold Em.setF; split
  · exact h
  · split
    · exact doL_s h
    · exact set_s h
theorem playerF_s {m : Em} {p f n : Int} (h : EmS m) : EmS (m.playerF p f n) := by
  unfold Em.playerF; split
  · exact h
  · split
    · exact doL_s h
    · exact set_s h
theorem lifeF_s {m : Em} {p n : Int} (h : EmS m) : EmS (m.lifeF p n) := by
  unfold Em.lifeF; split
  · exact h
  · split
    · exact fail_s h
    · exact playerF_s h
theorem playerF_inv {m : Em} {p f n : Int} (h : EmI m) : EmI (m.playerF p f n) := by
  unfold Em.playerF; split
  · exact h
  · split
    · exact doL_inv (by simp) h
    · exact set_inv (by simp) h
theorem lifeF_inv {m : Em} {p n : Int} (h : EmI m) : EmI (m.lifeF p n) := by
  unfold Em.lifeF; split
  · exact h
  · split
    · exact fail_inv h
    · exact playerF_inv h
theorem playerF_same {m : Em} {p f n : Int} : Same m (m.playerF p f n) := by
  unfold Em.playerF; split
  · exact .rfl'
  · split
    · exact doL_same (by simp)
    · exact set_same (by simp)
theorem lifeF_same {m : Em} {p n : Int} : Same m (m.lifeF p n) := by
  unfold Em.lifeF; split
  · exact .rfl'
  · split
    · exact fail_same
    · exact playerF_same

theorem between_calls (n a b : Int) (h : Hp) : ACalls prog G 116 [.int .i64 n, .int .i64 a, .int .i64 b] h fun r h' => r = .int .i64 (btw n a b) ∧ h' = h := by
  refine ACalls.enter func116 rfl ntmps116 results116 rfl ?_
  refine .seq <|
    .region <|
    .aI rfl rfl <|
    .nil <|
    .seq <|
    .region <|
    .mI rfl rfl <|
    .mI rfl rfl ?_
  refine .u rfl rfl rfl (q_min rfl rfl rfl) ?_
  refine .mI rfl rfl ?_
  refine .u rfl rfl rfl (q_max rfl rfl rfl) ?_
  refine .aI rfl rfl <|
    .nil ?_
  refine AW.ret ?_
  exact retQ.mk' (.one _) (VLe.of_eq (congrArg (V.int .i64) (rfl))) (HLe.refl _) ⟨rfl, rfl⟩

theorem emIs_calls (p : Int) {h0 : Hp} {id : Nat} {m : Em} {h : Hp} (he : EmAt h0 id m h) : ACalls prog G 115 [.ptr id 0, .int .i64 p] h fun r h' => r = .bool (m.err == 0 && isP p) ∧ EmAt h0 id (m.must (isP p) 1) h' := by
  obtain ⟨ve, vp, hr, rfl⟩ := he
  refine ACalls.enter func115 rfl ntmps115 results115 rfl ?_
  refine .seq <|
    .region <|
    .aB rfl rfl <|
    .nil <|
    .seq <|
    .region <|
    .mP rfl rfl <|
    .mI rfl rfl <|
    .qe rfl rfl rfl <|
    .mB rfl rfl ?_
  refine .gf rfl rfl rfl (fun _ => tl0) (fun hc => q_mv rfl (rfl : _ = V.int _ _)) ?_
  refine .gf rfl rfl rfl (fun hc => tl1 9 (.opt hc)) (fun hc => q_eq rfl rfl rfl) ?_
  refine .pf rfl rfl rfl rfl ?_
  refine AOps.wkn (T' := put _ 11 (V.bool (isP p))) (TLe.put (d := 11) (VLe.of_eq (congrArg V.bool (by unfold isP; cases p == 0 <;> rfl))) (TLe.refl _)) (HLe.refl _) ?_
  refine AOps.s rfl rfl rfl ((AStep.call rfl (by exact call123) (must_calls m ve vp (isP p) 1 (by decide) id _)).mono ?_)
  rintro x3 h3 ⟨rfl, rfl⟩
  refine .aB rfl rfl <|
    .nil ?_
  refine AW.ret ?_
  exact retQ.mk (.one _) ⟨rfl, ve, vp, by unfold Em.must; split <;> first | exact hr | exact ⟨hr.ae, hr.ap, hr.fp, hr.fe, hr.fi⟩, rfl⟩

theorem emPlayer_calls (p f n : Int) {h0 : Hp} {id : Nat} {m : Em} {h : Hp} (he : EmAt h0 id m h) (hI : EmI m) : ACalls prog G 117 [.ptr id 0, .int .i64 p, .int .i64 f, .int .i64 n] h fun r h' => r = .tup [] ∧ EmAt h0 id (m.playerF p f n) h' := by
  obtain ⟨ve, vp, hr, rfl⟩ := he
  refine ACalls.enter func117 rfl ntmps117 results117 rfl ?_
  refine .seq <|
    .seq <|
    .region <|
    .mP rfl rfl ?_
  refine .u rfl rfl rfl (QOp.call rfl call29 fun h' hl' => by exact err_calls (hl'.box _ _ (Hp.box_setBox _ _ _))) ?_
  refine .u rfl rfl rfl (q_neerr underlying54 rfl rfl) ?_
  refine .nil ?_
  refine AW.cond rfl (fun c0 => ?_) (fun c0 => ?_)
  · skip
    refine AW.ret ?_
    exact retQ.mk .none ⟨rfl, by rw [Em.playerF, if_pos (by simpa using c0)]; exact ⟨ve, vp, hr, rfl⟩⟩
  · skip
    refine AW.skip ?_
    refine .seq <|
      .region <|
      .mI rfl rfl <|
      .mI rfl rfl ?_
    refine .u rfl rfl rfl (q_buildS (ds := cEv ⟨3, p, f, 0, 0, 0⟩) rfl zeroValue129 underlying129 (pl129 underlying129) rfl (by kernel_rfl)) ?_
    refine AOps.s rfl rfl rfl (a_alloc rfl zeroValue129 rfl (fun id8 hid8 => ?_))
    refine .sw sizeOf129 rfl rfl rfl rfl ?_
    refine AOps.done 8 rfl hid8 ?_
    refine .nil <|
      .seq <|
      .seq <|
      .region <|
      .lw rfl isAgg129 sizeOf129 rfl rfl ?_
    refine .u rfl rfl rfl (QOp.call rfl call94 fun h' hl' => by exact evCheck_calls ⟨3, p, f, 0, 0, 0⟩ h') ?_
    refine .u rfl rfl rfl (q_neerr underlying54 rfl rfl) ?_
    refine .nil ?_
    refine AW.cond rfl (fun c1 => ?_) (fun c1 => ?_)
    · skip
      refine .seq <|
        .region <|
        .mP rfl rfl <|
        .lw rfl isAgg129 sizeOf129 rfl rfl ?_
      refine .u rfl rfl rfl (q_buildSl rfl underlying70 sizeOf129 zeroValue129 rfl rfl rfl rfl rfl) ?_
      refine AOps.s rfl rfl rfl ((AStep.call rfl (by exact call95) (doL_calls [⟨3, p, f, 0, 0, 0⟩] (by simp) (by simp) (k := .full) ⟨ve, vp, hr, rfl⟩ hI)).mono ?_)
      rintro x3 h3 ⟨rfl, he3⟩
      refine .nil ?_
      refine AW.ret ?_
      exact retQ.mk .none ⟨rfl, by rw [Em.playerF, if_neg (by simpa using c0), if_pos (by simpa using c1)]; exact he3⟩
    · have hc : evCheck ⟨3, p, f, 0, 0, 0⟩ = 0 := by simpa using c1
      have ok := (evCheck_ok hc).2.2.2.1 rfl
      have ok1 : 0 ≤ p := ok.1
      have ok2 : p < 2 := ok.2.1
      have ok3 : 0 ≤ f := ok.2.2.1
      have ok4 : f < 9 := ok.2.2.2
      refine AW.skip ?_
      refine AW.draw [12] [2, 3, 4, 5, 6, 7, 8, 9] [(0, true), (1, true), (2, true), (3, true), (4, true), (5, true), (6, true), (7, true), (8, true), (9, true), (10, true), (11, true), (12, false)] mixed (by kernel_rfl) rfl (by kernel_rfl) ?_
      refine .q rfl rfl rfl rfl (q_mv rfl (rfl : _ = V.ptr _ _)) ?_
      refine .q rfl rfl rfl rfl (q_load_iW rfl isAgg129 sizeOf129 rfl (by rfl)) ?_
      refine .p rfl rfl rfl (fun _ => q_mv rfl (rfl : _ = V.ptr _ _)) ?_
      refine .p rfl rfl rfl (fun _ => q_mv rfl (rfl : _ = V.int _ _)) ?_
      refine .p rfl rfl rfl (fun _ => q_mv rfl (rfl : _ = V.int _ _)) ?_
      refine .p rfl rfl rfl (fun _ => q_nc rfl (rfl : _ = V.ptr _ _) rfl) ?_
      refine .p rfl rfl rfl (fun _ => q_fa_b rfl underlying73 rfl (by exact sizeOf29) (by decide) rfl (rfl : _ = 0)) ?_
      refine .p rfl rfl rfl (fun _ => q_fa_b rfl underlying29 rfl (by exact sizeOf26) (by decide) rfl (rfl : _ = 12)) ?_
      refine .p rfl rfl rfl (fun _ => q_ia_ab rfl underlying26 sizeOf25 rfl rfl (by omega) (by omega)) ?_
      refine .p rfl rfl rfl (fun _ => q_ia_ab rfl underlying25 sizeOf3 rfl rfl (by omega) (by omega)) ?_
      refine .q rfl rfl rfl rfl (q_load_b1 rfl isAgg3 rfl (by exact bsb) (st_pl_ix ok1 ok2 ok3 ok4)) ?_
      refine .q rfl rfl rfl rfl (q_mv rfl (rfl : _ = V.int _ _)) ?_
      refine AOrd.s rfl rfl rfl rfl ((AStep.call rfl (by exact call96) (set_calls ⟨3, p, f, 0, 0, 0⟩ _ n (by simp) ⟨ve, vp, hr, rfl⟩ hI)).mono ?_)
      rintro x3 h3 ⟨rfl, he3⟩
      refine AOrd.nil ?_
      exact retQ.mk .none ⟨rfl, by rw [Em.playerF, if_neg (by simpa using c0), if_neg (by simpa using c1)]; exact he3⟩

theorem life_calls (p n : Int) {h0 : Hp} {id : Nat} {m : Em} {h : Hp} (he : EmAt h0 id m h) (hI : EmI m) (hS : EmS m) : ACalls prog G 85 [.ptr id 0, .int .i64 p, .int .i64 n] h fun r h' => r = .tup [] ∧ EmAt h0 id (m.lifeF p n) h' := by
  refine ACalls.enter func85 rfl ntmps85 results85 rfl ?_
  refine .seq <|
    .region <|
    .mP rfl rfl <|
    .mI rfl rfl ?_
  refine AOps.s rfl rfl rfl ((AStep.call rfl (by exact call115) (emIs_calls p he)).mono ?_)
  rintro x2 h2 ⟨rfl, he2⟩
  refine .nil ?_
  refine AW.cond rfl (fun c0 => ?_) (fun c0 => ?_)
  · obtain ⟨hz, hpp⟩ : m.err = 0 ∧ isP p = true := by simpa using c0
    have hp : 0 ≤ p ∧ p < 2 := by simp [isP] at hpp; omega
    have hsm := (hS hz).p p.toNat (Int.toNat 0) (by omega) (by decide)
    unfold sml at hsm
    have hbt : -2147483648 ≤ btw n (-2147483648) 2147483648 ∧ btw n (-2147483648) 2147483648 ≤ 2147483648 := by unfold btw; omega
    rw [Em.must, if_neg (by rw [hpp]; simp)] at he2
    obtain ⟨ve, vp, hr, rfl⟩ := he2
    refine .seq <|
      .region <|
      .mI rfl rfl ?_
    refine .u rfl rfl rfl (QOp.call rfl call116 fun h' hl' => by exact between_calls _ _ _ h') ?_
    refine .aI rfl rfl <|
      .nil <|
      .region <|
      .mP rfl rfl <|
      .mI rfl rfl <|
      .mP rfl rfl <|
      .mI rfl rfl <|
      .nP rfl rfl <|
      .fb rfl f73_0 rfl rfl <|
      .fb rfl f29_12 rfl rfl ?_
    refine .u rfl rfl rfl (q_ia_ab rfl underlying26 sizeOf25 rfl rfl (by omega) (by omega)) ?_
    refine .u rfl rfl rfl (q_ia_ab rfl underlying25 sizeOf3 rfl rfl (by decide) (by decide)) ?_
    refine .u rfl rfl rfl (q_load_b1 rfl isAgg3 rfl (by exact bsb) (st_pl_ix hp.1 hp.2 (by decide) (by decide))) ?_
    refine .mI rfl rfl <|
      .ad rfl rfl rfl (by omega) ?_
    refine .u rfl rfl rfl (QOp.call rfl call116 fun h' hl' => by exact between_calls _ _ _ h') ?_
    refine AOps.s rfl rfl rfl ((AStep.call rfl (by exact call117) (emPlayer_calls p 0 _ ⟨ve, vp, hr, rfl⟩ hI)).mono ?_)
    rintro x3 h3 ⟨rfl, he3⟩
    refine .nil ?_
    exact retQ.mk .none ⟨rfl, by rw [Em.lifeF, if_neg (by simpa using hz), if_neg (by rw [hpp]; decide)]; exact he3⟩
  · have hno : m.lifeF p n = m.must (isP p) 1 := by
      unfold Em.lifeF Em.must Em.fail
      cases hp : isP p <;> by_cases hz : m.err = 0 <;> simp_all
    refine AW.skip ?_
    exact retQ.mk .none ⟨rfl, by rw [hno]; exact he2⟩

end Go.Proofs.YtijhmlkffkedeaaGreatDoor
/- Walks: errors as numbers. -/
namespace Go.AV
open Go
section
variable {P : Program} {G : Nat → Option (List V)} {h : Hp} {o : Oper} {ρ : Operand → V}
/-- An interface value's own type, asked for. -/
theorem q_assert {x : Operand} {xT t : TypeId} {k : IntKind} {e : Int} (ho : o.op = .typeAssert x xT t true) (hu : P.underlying t = some (.int k)) (hx : ρ x = .iface t (.int k e)) : QOp P G h o ρ (.tup [.int k e, .bool true]) :=
  .of_run fun _ _ _ _ w a _ hr => by
    have h1 := hr x (by simp [ho, Op.operands]); rw [hx] at h1
    cases hv : a.eval x with
    | iface t' v =>
      rw [hv] at h1
      cases h1 with
      | iface _ _ _ h2 =>
        refine ⟨.tuple #[v, .bool true], by simp [execOp, ho, hv, Instr.typeAssert, run_underlying hu, Result.andThen], .tup _ _ rfl fun j hj hj' => ?_⟩
        match j, hj with
        | 0, _ => exact h2
        | 1, _ => exact .bool true
    | _ => rw [hv] at h1; cases h1
end
end Go.AV
namespace Go.Proofs.YtijhmlkffkedeaaGreatDoor
open Go Go.AV Go.Proofs.Tryz
set_option maxRecDepth 100000

theorem num_calls (e : Int) (h : Hp) : ACalls prog G 51 [eE e] h fun r h' => r = .int .i64 e ∧ h' = h := by
  refine ACalls.enter func51 rfl ntmps51 results51 rfl ?_
  refine .seq <|
    .region <|
    .aI rfl rfl <|
    .nil <|
    .seq <|
    .seq <|
    .region ?_
  refine .u rfl rfl rfl (q_mv rfl (rfl : _ = eErr _ _)) ?_
  refine .u rfl rfl rfl (q_eqerr underlying54 rfl rfl) ?_
  refine .nil ?_
  refine AW.cond rfl (fun c0 => ?_) (fun c0 => ?_)
  · skip
    refine .seq <|
      .region <|
      .aI rfl rfl <|
      .nil ?_
    refine AW.ret ?_
    exact retQ.mk' (.one _) (VLe.of_eq (congrArg (V.int .i64) ((beq_iff_eq.1 c0).symm))) (HLe.refl _) ⟨rfl, rfl⟩
  · have he : e ≠ 0 := by simpa using c0
    refine AW.skip ?_
    refine .seq <|
      .seq <|
      .region ?_
    refine .u rfl rfl rfl (q_mv rfl (rfl : _ = eErr _ _)) ?_
    refine .u rfl rfl rfl (q_assert rfl underlying93 (by exact eErr_ne he)) ?_
    refine .u rfl rfl rfl (q_mv rfl (rfl : _ = V.tup _)) ?_
    refine .u rfl rfl rfl (q_extract rfl rfl rfl) ?_
    refine .u rfl rfl rfl (q_extract rfl rfl rfl) ?_
    refine .aI rfl rfl <|
      .aB rfl rfl <|
      .nil <|
      .seq <|
      .region <|
      .mB rfl rfl <|
      .mB rfl rfl ?_
    refine .gt rfl rfl rfl (fun _ => tl0) (fun hc => q_mv rfl (rfl : _ = V.int _ _)) ?_
    refine .gt rfl rfl rfl (fun hc => tl1 14 (.opt hc)) (fun hc => q_ne rfl rfl rfl) ?_
    refine .pt rfl rfl rfl rfl <|
      .nil ?_
    refine AW.cond rfl (fun c1 => ?_) (fun c1 => ?_)
    · skip
      refine .seq <|
        .region <|
        .mI rfl rfl <|
        .aI rfl rfl <|
        .nil ?_
      refine AW.ret ?_
      exact retQ.mk' (.one _) (VLe.of_eq (congrArg (V.int .i64) (rfl))) (HLe.refl _) ⟨rfl, rfl⟩
    · simp [he] at c1

end Go.Proofs.YtijhmlkffkedeaaGreatDoor
/- Walks: emitters that do nothing more. -/
namespace Go.Proofs.YtijhmlkffkedeaaGreatDoor
open Go Go.AV Go.Proofs.Tryz
set_option maxRecDepth 100000
set_option maxHeartbeats 1000000
/-- An emitter that does nothing more: nil, or one in error (nothing pending). -/
def Dead (p : V) (e : Int) (h : Hp) : Prop := e ≠ 0 ∧ ((p = .pnil ∧ e = 4) ∨ ∃ id m ve, p = .ptr id 0 ∧ h.box id = some (emCells m ve .snil) ∧ m.err = e)
theorem Dead.ne {p : V} {e : Int} {h : Hp} (d : Dead p e h) : e ≠ 0 := d.1
theorem Dead.le {p : V} {e : Int} {h h' : Hp} (d : Dead p e h) (l : HLe h' h) : Dead p e h' := by
  obtain ⟨a, b | ⟨id, m, ve, hp, hb, hm⟩⟩ := d
  · exact ⟨a, .inl b⟩
  · exact ⟨a, .inr ⟨id, m, ve, hp, l.box _ _ hb, hm⟩⟩

theorem errNil_calls (h : Hp) : ACalls prog G 29 [.pnil] h fun r h' => r = eE 4 ∧ h' = h := by
  refine ACalls.enter func29 rfl ntmps29 results29 rfl ?_
  refine .seq <|
    .region ?_
  refine .u rfl rfl rfl (q_as rfl (rfl : _ = V.inil)) ?_
  refine .nil <|
    .seq <|
    .seq <|
    .region ?_
  refine .u rfl rfl rfl (q_mv rfl (rfl : _ = V.pnil)) ?_
  refine .u rfl rfl rfl (q_eqnil underlying42 rfl rfl rfl) ?_
  refine .nil ?_
  refine AW.cond rfl (fun c0 => ?_) (fun c0 => ?_)
  · skip
    refine .seq <|
      .region ?_
    refine .u rfl rfl rfl (q_iface rfl underlying93 rfl) ?_
    refine .u rfl rfl rfl (q_as rfl (rfl : _ = V.iface _ _)) ?_
    refine .nil ?_
    refine AW.ret ?_
    exact retQ.mk (.one _) ⟨by show V.iface _ (V.int _ _) = _; exact (eErr_ne (by decide)).symm, rfl⟩
  · cases c0

theorem derr_calls {p : V} {e : Int} {h : Hp} (hd : Dead p e h) : ACalls prog G 29 [p] h fun r h' => r = eE e ∧ h' = h := by
  obtain ⟨a, ⟨rfl, rfl⟩ | ⟨id, m, ve, rfl, hb, rfl⟩⟩ := hd
  · exact errNil_calls h
  · exact err_calls hb

end Go.Proofs.YtijhmlkffkedeaaGreatDoor
