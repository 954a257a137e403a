/- Walks: who has lost; what a creature is. -/
import Derived.Test.YtnbmcbkokaoapaaGreatDoorUses
namespace Go.Proofs.YtnbmcbkokaoapaaGreatDoor
open Go Go.AV
set_option maxRecDepth 100000
set_option maxHeartbeats 1000000
/-- Has a player lost? -/
def lostF (s : St) (p : Int) : Bool := (p == 0 || p == 1) && (decide (s.pl p.toNat 0 ≤ 0) || s.pl p.toNat 8 == 1)
theorem plp_at {s : St} {p : Int} (h0 : 0 ≤ p) (h1 : p < 2) : ((((cState s).drop 12)).drop (p.toNat * 9)).take 9 = plRow (s.pl p.toNat) := by
  have : p = 0 ∨ p = 1 := by omega
  rcases this with e | e <;> subst e <;> rfl
theorem lost_eq {s : St} {p : Int} (hp : 0 ≤ p ∧ p < 2) : lostF s p = (bif decide (s.pl p.toNat 0 ≤ 0) then true else s.pl p.toNat 8 == 1) := by
  have : p = 0 ∨ p = 1 := by omega
  rcases this with e | e <;> subst e <;> simp [lostF]

theorem lost_calls (s : St) (p : Int) (h : Hp) : ACalls Tryz.prog G 18 [eState s, .int .i64 p] h fun r h' => r = .bool (lostF s p) ∧ h' = h := by
  refine ACalls.enter Tryz.func18 rfl Tryz.ntmps18 Tryz.results18 rfl ?_
  refine AW.seq ?_
  refine AW.region ?_
  refine AOps.q rfl rfl rfl (q_boxa rfl (rfl : _ = V.agg _)) ?_
  refine AOps.q rfl rfl rfl (q_as rfl (rfl : _ = V.bool _)) ?_
  refine AOps.nil ?_
  refine AW.seq ?_
  refine AW.seq ?_
  refine AW.region ?_
  refine AOps.q rfl rfl rfl (q_mv rfl (rfl : _ = V.int _ _)) ?_
  refine AOps.q rfl rfl rfl (q_ne rfl rfl rfl) ?_
  refine AOps.q rfl rfl rfl (q_mv rfl (rfl : _ = V.bool _)) ?_
  refine AOps.g (wanted_t rfl rfl) rfl rfl (fun hc => TLe.refl _) (fun hc => q_mv rfl (rfl : _ = V.int _ _)) ?_
  refine AOps.g (wanted_t rfl rfl) rfl rfl (fun hc => TLe.put (d := 9) (VLe.opt hc) (TLe.refl _)) (fun hc => q_ne rfl rfl rfl) ?_
  refine AOps.q rfl rfl rfl (q_pickg rfl rfl (fun hp => by exact VLe.opt hp) (fun hp => by exact VLe.refl _)) ?_
  refine AOps.nil ?_
  refine AW.cond rfl (fun c0 => ?_) (fun c0 => ?_)
  · skip
    refine AW.seq ?_
    refine AW.region ?_
    refine AOps.q rfl rfl rfl (q_as rfl (rfl : _ = V.bool _)) ?_
    refine AOps.nil ?_
    refine AW.ret ?_
    exact retQ.mk' (.one _) (VLe.of_eq (congrArg V.bool (by simp at c0; simp [lostF]; intro h; omega))) (HLe.refl _) ⟨rfl, rfl⟩
  · have hp : 0 ≤ p ∧ p < 2 := by simp at c0; omega
    refine AW.skip ?_
    refine AW.seq ?_
    refine AW.region ?_
    refine AOps.q rfl rfl rfl (q_mv rfl (rfl : _ = V.int _ _)) ?_
    refine AOps.q rfl rfl rfl (q_fa_i rfl Tryz.underlying29 rfl (by exact Tryz.sizeOf26) (by decide) rfl (rfl : _ = List.drop 12 _)) ?_
    refine AOps.q rfl rfl rfl (q_ia_ai rfl Tryz.underlying26 Tryz.sizeOf25 rfl rfl (by omega) (by omega) rfl) ?_
    refine AOps.q rfl rfl rfl (q_load_iN (ds := plRow (s.pl p.toNat)) rfl Tryz.isAgg25 Tryz.sizeOf25 rfl rfl (plp_at hp.1 hp.2)) ?_
    refine AOps.s rfl rfl rfl (a_alloc rfl Tryz.zeroValue25 rfl (fun id5 hid5 => ?_))
    refine AOps.s0 rfl rfl (a_storeWA rfl Tryz.sizeOf25 rfl rfl (rfl : _ = V.agg _) rfl rfl ?_)
    refine AOps.done 5 rfl hid5 ?_
    refine AOps.nil ?_
    refine AW.seq ?_
    refine AW.region ?_
    refine AOps.q rfl rfl rfl (q_ia_ai rfl Tryz.underlying25 Tryz.sizeOf3 rfl rfl (by decide) (by decide) rfl) ?_
    refine AOps.q rfl rfl rfl (q_load_i1 rfl Tryz.isAgg3 rfl rfl) ?_
    refine AOps.q rfl rfl rfl (q_le rfl rfl rfl) ?_
    refine AOps.q rfl rfl rfl (q_mv rfl (rfl : _ = V.bool _)) ?_
    refine AOps.g (wanted_f rfl rfl) rfl rfl (fun hc => TLe.refl _) (fun hc => q_ia_ai rfl Tryz.underlying25 Tryz.sizeOf3 rfl rfl (by decide) (by decide) rfl) ?_
    refine AOps.g (wanted_f rfl rfl) rfl rfl (fun hc => TLe.put (d := 20) (VLe.opt hc) (TLe.refl _)) (fun hc => q_load_i1 rfl Tryz.isAgg3 rfl rfl) ?_
    refine AOps.g (wanted_f rfl rfl) rfl rfl (fun hc => TLe.put (d := 21) (VLe.opt hc) (TLe.refl _)) (fun hc => q_eq rfl rfl rfl) ?_
    refine AOps.q rfl rfl rfl (q_pickg rfl rfl (fun hp => by exact VLe.refl _) (fun hp => by first | exact VLe.opt hp | exact VLe.opt (by rw [hp]; rfl) | exact VLe.opt (by simp_all))) ?_
    refine AOps.q rfl rfl rfl (q_as rfl (rfl : _ = V.bool _)) ?_
    refine AOps.nil ?_
    refine AW.ret ?_
    exact retQ.mk' (.one _) (VLe.of_eq (congrArg V.bool ((lost_eq hp).symm))) (HLe.refl _) ⟨rfl, rfl⟩

def resultF (s : St) : Int := if lostF s 0 && lostF s 1 then 3 else if lostF s 0 then 2 else if lostF s 1 then 1 else 0

theorem result_calls (s : St) (h : Hp) : ACalls Tryz.prog G 55 [eState s] h fun r h' => r = .int .i64 (resultF s) ∧ h' = h := by
  refine ACalls.enter Tryz.func55 rfl Tryz.ntmps55 Tryz.results55 rfl ?_
  refine AW.seq ?_
  refine AW.region ?_
  refine AOps.q rfl rfl rfl (q_boxa rfl (rfl : _ = V.agg _)) ?_
  refine AOps.q rfl rfl rfl (q_as rfl (rfl : _ = V.int _ _)) ?_
  refine AOps.nil ?_
  refine AW.seq ?_
  refine AW.seq ?_
  refine AW.draw [] [] [(0, true), (1, true), (2, true), (3, true), (4, true), (5, true)] mixed (by kernel_rfl) rfl (by kernel_rfl) ?_
  refine AOrd.q rfl rfl rfl rfl (q_load_iW rfl Tryz.isAgg29 Tryz.sizeOf29 rfl (by rfl)) ?_
  refine AOrd.q rfl rfl rfl rfl (QOp.call rfl (by exact Tryz.call18) fun h' hl' => by exact lost_calls _ _ h') ?_
  refine AOrd.q rfl rfl rfl rfl (q_load_iW rfl Tryz.isAgg29 Tryz.sizeOf29 rfl (by rfl)) ?_
  refine AOrd.q rfl rfl rfl rfl (QOp.call rfl (by exact Tryz.call18) fun h' hl' => by exact lost_calls _ _ h') ?_
  refine AOrd.q rfl rfl rfl rfl (q_as rfl (rfl : _ = V.bool _)) ?_
  refine AOrd.q rfl rfl rfl rfl (q_as rfl (rfl : _ = V.bool _)) ?_
  refine AOrd.nil ?_
  refine AW.block ?_
  refine AW.seq ?_
  refine AW.region ?_
  refine AOps.q rfl rfl rfl (q_mv rfl (rfl : _ = V.bool _)) ?_
  refine AOps.q rfl rfl rfl (q_mv rfl (rfl : _ = V.bool _)) ?_
  refine AOps.g (wanted_t rfl rfl) rfl rfl (fun hc => TLe.refl _) (fun hc => q_mv rfl (rfl : _ = V.bool _)) ?_
  refine AOps.q rfl rfl rfl (q_pickg rfl rfl (fun hp => by exact VLe.opt hp) (fun hp => by exact VLe.refl _)) ?_
  refine AOps.q rfl rfl rfl (q_as rfl (rfl : _ = V.bool _)) ?_
  refine AOps.nil ?_
  refine AW.cond rfl (fun c0 => ?_) (fun c0 => ?_)
  · skip
    refine AW.seq ?_
    refine AW.region ?_
    refine AOps.q rfl rfl rfl (q_as rfl (rfl : _ = V.int _ _)) ?_
    refine AOps.nil ?_
    refine AW.ret ?_
    exact retQ.mk' (.one _) (VLe.of_eq (congrArg (V.int .i64) (by rw [resultF]; cases e0 : lostF s 0 <;> cases e1 : lostF s 1 <;> simp_all))) (HLe.refl _) ⟨rfl, rfl⟩
  · skip
    refine AW.seq ?_
    refine AW.region ?_
    refine AOps.q rfl rfl rfl (q_mv rfl (rfl : _ = V.bool _)) ?_
    refine AOps.q rfl rfl rfl (q_as rfl (rfl : _ = V.bool _)) ?_
    refine AOps.nil ?_
    refine AW.cond rfl (fun c1 => ?_) (fun c1 => ?_)
    · skip
      refine AW.seq ?_
      refine AW.region ?_
      refine AOps.q rfl rfl rfl (q_as rfl (rfl : _ = V.int _ _)) ?_
      refine AOps.nil ?_
      refine AW.ret ?_
      exact retQ.mk' (.one _) (VLe.of_eq (congrArg (V.int .i64) (by rw [resultF]; cases e0 : lostF s 0 <;> cases e1 : lostF s 1 <;> simp_all))) (HLe.refl _) ⟨rfl, rfl⟩
    · skip
      refine AW.seq ?_
      refine AW.region ?_
      refine AOps.q rfl rfl rfl (q_mv rfl (rfl : _ = V.bool _)) ?_
      refine AOps.q rfl rfl rfl (q_as rfl (rfl : _ = V.bool _)) ?_
      refine AOps.nil ?_
      refine AW.cond rfl (fun c2 => ?_) (fun c2 => ?_)
      · skip
        refine AW.seq ?_
        refine AW.region ?_
        refine AOps.q rfl rfl rfl (q_as rfl (rfl : _ = V.int _ _)) ?_
        refine AOps.nil ?_
        refine AW.ret ?_
        exact retQ.mk' (.one _) (VLe.of_eq (congrArg (V.int .i64) (by rw [resultF]; cases e0 : lostF s 0 <;> cases e1 : lostF s 1 <;> simp_all))) (HLe.refl _) ⟨rfl, rfl⟩
      · skip
        refine AW.skip ?_
        refine AW.seq ?_
        refine AW.region ?_
        refine AOps.q rfl rfl rfl (q_as rfl (rfl : _ = V.int _ _)) ?_
        refine AOps.nil ?_
        refine AW.ret ?_
        exact retQ.mk' (.one _) (VLe.of_eq (congrArg (V.int .i64) (by rw [resultF]; cases e0 : lostF s 0 <;> cases e1 : lostF s 1 <;> simp_all))) (HLe.refl _) ⟨rfl, rfl⟩

/-- An object's card. -/
def kindF (s : St) (i : Int) : Card := (cardE (s.objs.getD i.toNat noObj 0)).1
def creatureF (s : St) (i : Int) : Bool := inN i s.objs.length && s.objs.getD i.toNat noObj 3 == 8 && (kindF s i).kind == 1
/-- An effect that lasts. -/
structure Static where
  src : Int
  ctl : Int
  grp : Int
  doo : Eff0
def cStatic (x : Static) : List V := [.int .i64 x.src, .int .i64 x.ctl, .int .i64 x.grp, .int .i64 x.doo.op, .int .i64 x.doo.n, .int .i64 x.doo.m, .int .i64 x.doo.who, .sl .imm 5 0 []]
def reachesF (x : Static) (s : St) (i : Int) : Bool :=
  if x.grp = 0 then true else if x.grp = 1 then s.objs.getD i.toNat noObj 2 == x.ctl else if x.grp = 2 then !(s.objs.getD i.toNat noObj 2 == x.ctl) else s.objs.getD i.toNat noObj 2 == x.ctl && i != x.src
theorem cr_in {n i : Int} (h : (bif decide (0 ≤ i) then decide (i < n) else false) = true) : 0 ≤ i ∧ i < n := by
  by_cases e : 0 ≤ i
  · exact ⟨e, by simpa [e] using h⟩
  · simp [e] at h
theorem cr_in2 {n i : Int} {b : Bool} (h : (bif bif decide (0 ≤ i) then decide (i < n) else false then b else false) = true) : 0 ≤ i ∧ i < n := by
  refine cr_in ?_
  cases e : (bif decide (0 ≤ i) then decide (i < n) else false) with
  | true => rfl
  | false => rw [e] at h; cases h
theorem cr_eq {s : St} {i : Int} : (bif bif bif decide (0 ≤ i) then decide (i < (s.objs.length : Int)) else false then s.objs.getD i.toNat noObj 3 == 8 else false then (kindF s i).kind == 1 else false) = creatureF s i := by
  simp only [creatureF, inN]
  cases decide (0 ≤ i) <;> cases decide (i < (s.objs.length : Int)) <;> cases (s.objs.getD i.toNat noObj 3 == 8) <;> rfl
theorem cardE_err {n : Int} (h : (cardE n).2 ≠ 0) : (cardE n).1 = noCard := by
  unfold cardE at *; split
  · rfl
  · rename_i h1; rw [if_neg h1] at h; exact absurd rfl h

theorem kind_calls (s : St) (i : Int) (hi : 0 ≤ i ∧ i < s.objs.length) (h : Hp) : ACalls Tryz.prog G 121 [eState s, .int .i64 i] h fun r h' => r = eCard (kindF s i) ∧ h' = h := by
  refine ACalls.enter Tryz.func121 rfl Tryz.ntmps121 Tryz.results121 rfl ?_
  refine AW.seq ?_
  refine AW.region ?_
  refine AOps.q rfl rfl rfl (q_boxa rfl (rfl : _ = V.agg _)) ?_
  refine AOps.s rfl rfl rfl (a_alloc rfl Tryz.zeroValue92 rfl (fun id4 hid4 => ?_))
  refine AOps.nil ?_
  refine AW.seq ?_
  refine AW.region ?_
  refine AOps.q rfl rfl rfl (q_fa_i rfl Tryz.underlying29 rfl (by exact Tryz.sizeOf22) (by decide) rfl (rfl : _ = List.drop 0 _)) ?_
  refine AOps.q rfl rfl rfl (q_load_i1 rfl Tryz.isAgg22 rfl rfl) ?_
  refine AOps.q rfl rfl rfl (q_mv rfl (rfl : _ = V.int _ _)) ?_
  refine AOps.q rfl rfl rfl (q_ia_s rfl Tryz.underlying22 Tryz.sizeOf49 rfl rfl (by omega) (by omega) (cObjs_elem' (by omega) (by omega))) ?_
  refine AOps.q rfl rfl rfl (q_ia_ai rfl Tryz.underlying49 Tryz.sizeOf3 rfl rfl (by decide) (by decide) rfl) ?_
  refine AOps.q rfl rfl rfl (q_load_i1 rfl Tryz.isAgg3 rfl rfl) ?_
  refine AOps.q rfl rfl rfl (QOp.call rfl (by exact Tryz.call112) fun h' hl' => by exact card_calls _ h') ?_
  refine AOps.q rfl rfl rfl (q_mv rfl (rfl : _ = V.tup _)) ?_
  refine AOps.q rfl rfl rfl (q_extract rfl rfl rfl) ?_
  refine AOps.q rfl rfl rfl (q_extract rfl rfl rfl) ?_
  refine AOps.s rfl rfl rfl (a_alloc rfl Tryz.zeroValue92 rfl (fun id5 hid5 => ?_))
  refine AOps.s0 rfl rfl (a_storeWA rfl Tryz.sizeOf92 rfl rfl (rfl : _ = V.agg _) rfl rfl ?_)
  refine AOps.done 5 rfl hid5 ?_
  refine AOps.q rfl rfl rfl (q_as rfl (rfl : _ = eErr _ _)) ?_
  refine AOps.nil ?_
  refine AW.seq ?_
  refine AW.seq ?_
  refine AW.region ?_
  refine AOps.q rfl rfl rfl (q_mv rfl (rfl : _ = eErr _ _)) ?_
  refine AOps.q rfl rfl rfl (q_neerr Tryz.underlying38 rfl rfl) ?_
  refine AOps.nil ?_
  refine AW.cond rfl (fun c0 => ?_) (fun c0 => ?_)
  · skip
    refine AW.seq ?_
    refine AW.region ?_
    refine AOps.q rfl rfl rfl (q_buildS (ds := [.int .i64 0, .int .i64 0, .bool false, .int .i64 0, .int .i64 0, .int .i64 0, .int .i64 0, .int .i64 0, .int .i64 0, .int .i64 0, .int .i64 0, .int .i64 0, .snil]) rfl Tryz.zeroValue92 Tryz.underlying92 (pl92 Tryz.underlying92) rfl (by kernel_rfl)) ?_
    refine AOps.s0 rfl rfl (a_storeWA rfl Tryz.sizeOf92 rfl rfl (rfl : _ = V.agg _) rfl rfl ?_)
    refine AOps.nil ?_
    refine AW.ret ?_
    exact retQ.mk' (Res.cellB Tryz.isAgg92 Tryz.sizeOf92 rfl (by exact Hp.box_setBox _ _ _) rfl) (by rw [kindF, cardE_err (by simpa using c0)]; exact zCard_le.agg) (HLe.setBox hid4.1) ⟨rfl, rfl⟩
  · skip
    refine AW.skip ?_
    refine AW.seq ?_
    refine AW.region ?_
    refine AOps.q rfl rfl rfl (q_load_iW rfl Tryz.isAgg92 Tryz.sizeOf92 rfl (by rfl)) ?_
    refine AOps.s0 rfl rfl (a_storeWA rfl Tryz.sizeOf92 rfl rfl (rfl : _ = V.agg _) rfl rfl ?_)
    refine AOps.nil ?_
    refine AW.ret ?_
    exact retQ.mk' (Res.cellB Tryz.isAgg92 Tryz.sizeOf92 rfl (by exact Hp.box_setBox _ _ _) rfl) (VLe.refl _) (HLe.setBox hid4.1) ⟨rfl, rfl⟩

theorem creature_calls (s : St) (i : Int) (h : Hp) : ACalls Tryz.prog G 93 [eState s, .int .i64 i] h fun r h' => r = .bool (creatureF s i) ∧ h' = h := by
  refine ACalls.enter Tryz.func93 rfl Tryz.ntmps93 Tryz.results93 rfl ?_
  refine AW.seq ?_
  refine AW.region ?_
  refine AOps.q rfl rfl rfl (q_boxa rfl (rfl : _ = V.agg _)) ?_
  refine AOps.q rfl rfl rfl (q_as rfl (rfl : _ = V.bool _)) ?_
  refine AOps.nil ?_
  refine AW.seq ?_
  refine AW.region ?_
  refine AOps.q rfl rfl rfl (q_mv rfl (rfl : _ = V.int _ _)) ?_
  refine AOps.q rfl rfl rfl (q_ge rfl rfl rfl) ?_
  refine AOps.q rfl rfl rfl (q_mv rfl (rfl : _ = V.bool _)) ?_
  refine AOps.g (wanted_t rfl rfl) rfl rfl (fun hc => TLe.refl _) (fun hc => q_mv rfl (rfl : _ = V.int _ _)) ?_
  refine AOps.g (wanted_t rfl rfl) rfl rfl (fun hc => TLe.refl _) (fun hc => q_fa_i rfl Tryz.underlying29 rfl (by exact Tryz.sizeOf22) (by decide) rfl (rfl : _ = List.drop 0 _)) ?_
  refine AOps.g (wanted_t rfl rfl) rfl rfl (fun hc => TLe.put (d := 9) (VLe.opt hc) (TLe.refl _)) (fun hc => q_load_i1 rfl Tryz.isAgg22 rfl rfl) ?_
  refine AOps.g (wanted_t rfl rfl) rfl rfl (fun hc => TLe.put (d := 10) (VLe.opt hc) (TLe.refl _)) (fun hc => q_len rfl Tryz.underlying22 rfl) ?_
  refine AOps.g (wanted_t rfl rfl) rfl rfl (fun hc => TLe.put (d := 11) (VLe.opt hc) (TLe.put (d := 8) (VLe.opt hc) (TLe.refl _))) (fun hc => q_lt rfl rfl rfl) ?_
  refine AOps.q rfl rfl rfl (q_pickg rfl rfl (fun hp => by exact VLe.opt hp) (fun hp => by exact VLe.refl _)) ?_
  refine AOps.q rfl rfl rfl (q_mv rfl (rfl : _ = V.bool _)) ?_
  refine AOps.g (wanted_t rfl rfl) rfl rfl (fun hc => TLe.refl _) (fun hc => q_fa_i rfl Tryz.underlying29 rfl (by exact Tryz.sizeOf22) (by decide) rfl (rfl : _ = List.drop 0 _)) ?_
  refine AOps.g (wanted_t rfl rfl) rfl rfl (fun hc => TLe.put (d := 15) (VLe.opt hc) (TLe.refl _)) (fun hc => q_load_i1 rfl Tryz.isAgg22 rfl rfl) ?_
  refine AOps.g (wanted_t rfl rfl) rfl rfl (fun hc => TLe.refl _) (fun hc => q_mv rfl (rfl : _ = V.int _ _)) ?_
  refine AOps.g (wanted_t rfl rfl) rfl rfl (fun hc => TLe.put (d := 17) (VLe.opt hc) (TLe.put (d := 16) (VLe.opt hc) (TLe.refl _))) (fun hc => q_ia_s rfl Tryz.underlying22 Tryz.sizeOf49 rfl rfl (cr_in hc).1 (cr_in hc).2 (cObjs_elem' (cr_in hc).1 (cr_in hc).2)) ?_
  refine AOps.g (wanted_t rfl rfl) rfl rfl (fun hc => TLe.put (d := 18) (VLe.opt hc) (TLe.refl _)) (fun hc => q_ia_ai rfl Tryz.underlying49 Tryz.sizeOf3 rfl rfl (by decide) (by decide) rfl) ?_
  refine AOps.g (wanted_t rfl rfl) rfl rfl (fun hc => TLe.put (d := 19) (VLe.opt hc) (TLe.refl _)) (fun hc => q_load_i1 rfl Tryz.isAgg3 rfl rfl) ?_
  refine AOps.g (wanted_t rfl rfl) rfl rfl (fun hc => TLe.put (d := 20) (VLe.opt hc) (TLe.refl _)) (fun hc => q_eq rfl rfl rfl) ?_
  refine AOps.q rfl rfl rfl (q_pickg rfl rfl (fun hp => by exact VLe.opt hp) (fun hp => by exact VLe.refl _)) ?_
  refine AOps.q rfl rfl rfl (q_mv rfl (rfl : _ = V.bool _)) ?_
  refine AOps.g (wanted_t rfl rfl) rfl rfl (fun hc => TLe.refl _) (fun hc => q_load_iW rfl Tryz.isAgg29 Tryz.sizeOf29 rfl (by rfl)) ?_
  refine AOps.g (wanted_t rfl rfl) rfl rfl (fun hc => TLe.refl _) (fun hc => q_mv rfl (rfl : _ = V.int _ _)) ?_
  refine AOps.g (wanted_t rfl rfl) rfl rfl (fun hc => TLe.put (d := 25) (VLe.opt hc) (TLe.put (d := 24) (VLe.opt hc) (TLe.refl _))) (fun hc => QOp.call rfl (by exact Tryz.call121) fun h' hl' => by exact kind_calls _ _ (cr_in2 hc) h') ?_
  refine AOps.g (wanted_t rfl rfl) rfl rfl (fun hc => TLe.put (d := 26) (VLe.opt hc) (TLe.refl _)) (fun hc => q_f1 rfl Tryz.underlying92 rfl (by exact Tryz.isAgg3) rfl rfl) ?_
  refine AOps.g (wanted_t rfl rfl) rfl rfl (fun hc => TLe.put (d := 27) (VLe.opt hc) (TLe.refl _)) (fun hc => q_eq rfl rfl rfl) ?_
  refine AOps.q rfl rfl rfl (q_pickg rfl rfl (fun hp => by exact VLe.opt hp) (fun hp => by exact VLe.refl _)) ?_
  refine AOps.q rfl rfl rfl (q_as rfl (rfl : _ = V.bool _)) ?_
  refine AOps.nil ?_
  refine AW.ret ?_
  exact retQ.mk' (.one _) (VLe.of_eq (congrArg V.bool (cr_eq))) (HLe.refl _) ⟨rfl, rfl⟩

theorem reaches_calls (x : Static) (s : St) (i : Int) (hi : 0 ≤ i ∧ i < s.objs.length) (h : Hp) : ACalls Tryz.prog G 123 [.agg (cStatic x), eState s, .int .i64 i] h fun r h' => r = .bool (reachesF x s i) ∧ h' = h := by
  refine ACalls.enter Tryz.func123 rfl Tryz.ntmps123 Tryz.results123 rfl ?_
  refine AW.seq ?_
  refine AW.region ?_
  refine AOps.q rfl rfl rfl (q_boxa rfl (rfl : _ = V.agg _)) ?_
  refine AOps.q rfl rfl rfl (q_boxa rfl (rfl : _ = V.agg _)) ?_
  refine AOps.q rfl rfl rfl (q_as rfl (rfl : _ = V.bool _)) ?_
  refine AOps.nil ?_
  refine AW.seq ?_
  refine AW.draw [] [] [(0, true), (1, true), (2, true), (3, true), (4, true), (5, true), (6, true), (7, true), (8, true), (9, true)] mixed (by kernel_rfl) rfl (by kernel_rfl) ?_
  refine AOrd.q rfl rfl rfl rfl (q_fa_i rfl Tryz.underlying29 rfl (by exact Tryz.sizeOf22) (by decide) rfl (rfl : _ = List.drop 0 _)) ?_
  refine AOrd.q rfl rfl rfl rfl (q_load_i1 rfl Tryz.isAgg22 rfl rfl) ?_
  refine AOrd.q rfl rfl rfl rfl (q_mv rfl (rfl : _ = V.int _ _)) ?_
  refine AOrd.q rfl rfl rfl rfl (q_ia_s rfl Tryz.underlying22 Tryz.sizeOf49 rfl rfl (by omega) (by omega) (cObjs_elem' (by omega) (by omega))) ?_
  refine AOrd.q rfl rfl rfl rfl (q_ia_ai rfl Tryz.underlying49 Tryz.sizeOf3 rfl rfl (by decide) (by decide) rfl) ?_
  refine AOrd.q rfl rfl rfl rfl (q_load_i1 rfl Tryz.isAgg3 rfl rfl) ?_
  refine AOrd.q rfl rfl rfl rfl (q_fa_i rfl Tryz.underlying162 rfl (by exact Tryz.sizeOf3) (by decide) rfl (rfl : _ = List.drop 1 _)) ?_
  refine AOrd.q rfl rfl rfl rfl (q_load_i1 rfl Tryz.isAgg3 rfl rfl) ?_
  refine AOrd.q rfl rfl rfl rfl (q_eq rfl rfl rfl) ?_
  refine AOrd.q rfl rfl rfl rfl (q_as rfl (rfl : _ = V.bool _)) ?_
  refine AOrd.nil ?_
  refine AW.seq ?_
  refine AW.seq ?_
  refine AW.region ?_
  refine AOps.q rfl rfl rfl (q_fa_i rfl Tryz.underlying162 rfl (by exact Tryz.sizeOf3) (by decide) rfl (rfl : _ = List.drop 2 _)) ?_
  refine AOps.q rfl rfl rfl (q_load_i1 rfl Tryz.isAgg3 rfl rfl) ?_
  refine AOps.nil ?_
  refine AW.block ?_
  refine AW.seq ?_
  refine AW.region ?_
  refine AOps.q rfl rfl rfl (q_eq rfl rfl rfl) ?_
  refine AOps.q rfl rfl rfl (q_as rfl (rfl : _ = V.bool _)) ?_
  refine AOps.nil ?_
  refine AW.cond rfl (fun c0 => ?_) (fun c0 => ?_)
  · skip
    refine AW.seq ?_
    refine AW.region ?_
    refine AOps.q rfl rfl rfl (q_as rfl (rfl : _ = V.bool _)) ?_
    refine AOps.nil ?_
    refine AW.ret ?_
    exact retQ.mk' (.one _) (VLe.of_eq (congrArg V.bool (by simp at c0; simp [reachesF, c0]))) (HLe.refl _) ⟨rfl, rfl⟩
  · skip
    refine AW.seq ?_
    refine AW.region ?_
    refine AOps.q rfl rfl rfl (q_eq rfl rfl rfl) ?_
    refine AOps.q rfl rfl rfl (q_as rfl (rfl : _ = V.bool _)) ?_
    refine AOps.nil ?_
    refine AW.cond rfl (fun c1 => ?_) (fun c1 => ?_)
    · skip
      refine AW.seq ?_
      refine AW.region ?_
      refine AOps.q rfl rfl rfl (q_mv rfl (rfl : _ = V.bool _)) ?_
      refine AOps.q rfl rfl rfl (q_as rfl (rfl : _ = V.bool _)) ?_
      refine AOps.nil ?_
      refine AW.ret ?_
      exact retQ.mk' (.one _) (VLe.of_eq (congrArg V.bool (by simp at c0 c1; simp [reachesF, c1]))) (HLe.refl _) ⟨rfl, rfl⟩
    · skip
      refine AW.seq ?_
      refine AW.region ?_
      refine AOps.q rfl rfl rfl (q_eq rfl rfl rfl) ?_
      refine AOps.q rfl rfl rfl (q_as rfl (rfl : _ = V.bool _)) ?_
      refine AOps.nil ?_
      refine AW.cond rfl (fun c2 => ?_) (fun c2 => ?_)
      · skip
        refine AW.seq ?_
        refine AW.region ?_
        refine AOps.q rfl rfl rfl (q_mv rfl (rfl : _ = V.bool _)) ?_
        refine AOps.q rfl rfl rfl (q_not rfl rfl) ?_
        refine AOps.q rfl rfl rfl (q_as rfl (rfl : _ = V.bool _)) ?_
        refine AOps.nil ?_
        refine AW.ret ?_
        exact retQ.mk' (.one _) (VLe.of_eq (congrArg V.bool (by simp at c0 c1 c2; simp [reachesF, c2]))) (HLe.refl _) ⟨rfl, rfl⟩
      · skip
        refine AW.skip ?_
        refine AW.seq ?_
        refine AW.region ?_
        refine AOps.q rfl rfl rfl (q_mv rfl (rfl : _ = V.bool _)) ?_
        refine AOps.q rfl rfl rfl (q_mv rfl (rfl : _ = V.bool _)) ?_
        refine AOps.g (wanted_t rfl rfl) rfl rfl (fun hc => TLe.refl _) (fun hc => q_mv rfl (rfl : _ = V.int _ _)) ?_
        refine AOps.g (wanted_t rfl rfl) rfl rfl (fun hc => TLe.refl _) (fun hc => q_fa_i rfl Tryz.underlying162 rfl (by exact Tryz.sizeOf3) (by decide) rfl (rfl : _ = List.drop 0 _)) ?_
        refine AOps.g (wanted_t rfl rfl) rfl rfl (fun hc => TLe.put (d := 31) (VLe.opt hc) (TLe.refl _)) (fun hc => q_load_i1 rfl Tryz.isAgg3 rfl rfl) ?_
        refine AOps.g (wanted_t rfl rfl) rfl rfl (fun hc => TLe.put (d := 32) (VLe.opt hc) (TLe.put (d := 30) (VLe.opt hc) (TLe.refl _))) (fun hc => q_ne rfl rfl rfl) ?_
        refine AOps.q rfl rfl rfl (q_pickg rfl rfl (fun hp => by exact VLe.opt hp) (fun hp => by exact VLe.refl _)) ?_
        refine AOps.q rfl rfl rfl (q_as rfl (rfl : _ = V.bool _)) ?_
        refine AOps.nil ?_
        refine AW.ret ?_
        exact retQ.mk' (.one _) (VLe.of_eq (congrArg V.bool (by simp at c0 c1 c2; simp [reachesF, c0, c1, c2]))) (HLe.refl _) ⟨rfl, rfl⟩

end Go.Proofs.YtnbmcbkokaoapaaGreatDoor
