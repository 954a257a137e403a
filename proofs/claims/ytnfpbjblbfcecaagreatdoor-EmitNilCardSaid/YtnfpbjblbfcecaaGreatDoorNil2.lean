/- Walks: calls of emitters that do nothing more. -/
import Derived.Test.YtnfpbjblbfcecaaGreatDoorNil
namespace Go.Proofs.YtnfpbjblbfcecaaGreatDoor
open Go Go.AV
set_option maxRecDepth 100000
set_option maxHeartbeats 1000000

theorem dstate_calls {p : V} {e : Int} {h : Hp} (hd : Dead p e h) : ACalls Tryz.prog G 12 [p] h fun r h' => r = eState noSt ∧ h' = h := by
  refine ACalls.enter Tryz.func12 rfl Tryz.ntmps12 Tryz.results12 rfl ?_
  refine AW.seq ?_
  refine AW.region ?_
  refine AOps.s rfl rfl rfl (a_alloc rfl Tryz.zeroValue29 rfl (fun id2 hid2 => ?_))
  refine AOps.nil ?_
  refine AW.seq ?_
  refine AW.seq ?_
  have hd2 := hd.le (HLe.setBox (cs := zState) hid2.1)
  refine AW.region ?_
  refine AOps.q rfl rfl rfl (q_mv rfl (rfl : _ = p)) ?_
  refine AOps.q rfl rfl rfl (QOp.call rfl (by exact Tryz.call11) fun h' hl' => by exact derr_calls (hd2.le hl')) ?_
  refine AOps.q rfl rfl rfl (q_neerr Tryz.underlying40 rfl rfl) ?_
  refine AOps.nil ?_
  refine AW.cond rfl (fun c0 => ?_) (fun c0 => ?_)
  · skip
    refine AW.seq ?_
    refine AW.region ?_
    refine AOps.q rfl rfl rfl (q_buildS (ds := zState) rfl Tryz.zeroValue29 Tryz.underlying29 (pl29 Tryz.underlying29) rfl (by kernel_rfl)) ?_
    refine AOps.s0 rfl rfl (a_storeWA rfl Tryz.sizeOf29 rfl rfl (rfl : _ = V.agg _) rfl rfl ?_)
    refine AOps.nil ?_
    refine AW.ret ?_
    exact retQ.mk' (Res.cellB Tryz.isAgg29 Tryz.sizeOf29 rfl (by exact Hp.box_setBox _ _ _) rfl) zState_le.agg (.setBox hid2.1) ⟨rfl, rfl⟩
  · simp [hd.ne] at c0

theorem failNil_calls (x : V) (h : Hp) : ACalls Tryz.prog G 17 [.pnil, x] h fun r h' => r = .tup [] ∧ h' = h := by
  refine ACalls.enter Tryz.func17 rfl Tryz.ntmps17 Tryz.results17 rfl ?_
  refine AW.seq ?_
  refine AW.region ?_
  refine AOps.q rfl rfl rfl (q_mv rfl (rfl : _ = V.pnil)) ?_
  refine AOps.q rfl rfl rfl (q_nenil Tryz.underlying34 rfl rfl rfl) ?_
  refine AOps.q rfl rfl rfl (q_mv rfl (rfl : _ = V.bool _)) ?_
  refine AOps.gn (wanted_no (wanted_t rfl rfl) rfl) rfl rfl ?_
  refine AOps.gn (wanted_no (wanted_t rfl rfl) rfl) rfl rfl ?_
  refine AOps.gn (wanted_no (wanted_t rfl rfl) rfl) rfl rfl ?_
  refine AOps.gn (wanted_no (wanted_t rfl rfl) rfl) rfl rfl ?_
  refine AOps.gn (wanted_no (wanted_t rfl rfl) rfl) rfl rfl ?_
  refine AOps.q rfl rfl rfl (q_pickg (u := false) (v := false) rfl rfl (fun hp => by cases hp) (fun hp => VLe.refl _)) ?_
  refine AOps.nil ?_
  refine AW.cond rfl (fun c0 => ?_) (fun c0 => ?_)
  · cases c0
  · skip
    refine AW.skip ?_
    exact retQ.mk .none ⟨rfl, rfl⟩

theorem dfail_calls {x : Int} {p : V} {e : Int} {h : Hp} (hd : Dead p e h) : ACalls Tryz.prog G 17 [p, eE x] h fun r h' => r = .tup [] ∧ h' = h := by
  obtain ⟨a, ⟨rfl, rfl⟩ | ⟨id, m, ve, rfl, hb, rfl⟩⟩ := hd
  · exact failNil_calls _ h
  · have e1 : h = h.setBox id (emCells m ve .snil) := (setBox_self hb).symm
    have e2 : m.fail x = m := by unfold Em.fail; rw [if_neg a]
    have := fail_calls m ve .snil x id h
    rw [e2, ← e1] at this
    exact this

theorem takenNil_calls (h : Hp) : ACalls Tryz.prog G 40 [.pnil] h fun r h' => r = ePds [] ∧ h' = h := by
  refine ACalls.enter Tryz.func40 rfl Tryz.ntmps40 Tryz.results40 rfl ?_
  refine AW.seq ?_
  refine AW.region ?_
  refine AOps.q rfl rfl rfl (q_as rfl (rfl : _ = V.snil)) ?_
  refine AOps.nil ?_
  refine AW.seq ?_
  refine AW.region ?_
  refine AOps.q rfl rfl rfl (q_mv rfl (rfl : _ = V.pnil)) ?_
  refine AOps.q rfl rfl rfl (QOp.call rfl (by exact Tryz.call20) fun h' hl' => by exact dpending_calls (e := 4) ⟨by decide, .inl ⟨rfl, rfl⟩⟩) ?_
  refine AOps.q rfl rfl rfl (q_as rfl (rfl : _ = V.sl _ _ _ _)) ?_
  refine AOps.nil ?_
  refine AW.seq ?_
  refine AW.seq ?_
  refine AW.region ?_
  refine AOps.q rfl rfl rfl (q_mv rfl (rfl : _ = V.pnil)) ?_
  refine AOps.q rfl rfl rfl (q_nenil Tryz.underlying34 rfl rfl rfl) ?_
  refine AOps.nil ?_
  refine AW.cond rfl (fun c0 => ?_) (fun c0 => ?_)
  · cases c0
  · skip
    refine AW.skip ?_
    refine AW.seq ?_
    refine AW.region ?_
    refine AOps.q rfl rfl rfl (q_mv rfl (rfl : _ = V.sl _ _ _ _)) ?_
    refine AOps.q rfl rfl rfl (q_as rfl (rfl : _ = V.sl _ _ _ _)) ?_
    refine AOps.nil ?_
    refine AW.ret ?_
    exact retQ.mk (.one _) ⟨rfl, rfl⟩

theorem takenBox_calls {m : Em} {ve : V} {id : Nat} {h : Hp} (hb : h.box id = some (emCells m ve .snil)) (hm : m.err ≠ 0) : ACalls Tryz.prog G 40 [.ptr id 0] h fun r h' => r = ePds [] ∧ h' = h := by
  refine ACalls.enter Tryz.func40 rfl Tryz.ntmps40 Tryz.results40 rfl ?_
  refine AW.seq ?_
  refine AW.region ?_
  refine AOps.q rfl rfl rfl (q_as rfl (rfl : _ = V.snil)) ?_
  refine AOps.nil ?_
  refine AW.seq ?_
  refine AW.region ?_
  refine AOps.q rfl rfl rfl (q_mv rfl (rfl : _ = V.ptr _ _)) ?_
  refine AOps.q rfl rfl rfl (QOp.call rfl (by exact Tryz.call20) fun h' hl' => by exact dpending_calls (e := m.err) ⟨hm, .inr ⟨id, m, ve, rfl, hl'.box _ _ hb, rfl⟩⟩) ?_
  refine AOps.q rfl rfl rfl (q_as rfl (rfl : _ = V.sl _ _ _ _)) ?_
  refine AOps.nil ?_
  refine AW.seq ?_
  refine AW.seq ?_
  refine AW.region ?_
  refine AOps.q rfl rfl rfl (q_mv rfl (rfl : _ = V.ptr _ _)) ?_
  refine AOps.q rfl rfl rfl (q_nenil Tryz.underlying34 rfl rfl rfl) ?_
  refine AOps.nil ?_
  refine AW.cond rfl (fun c0 => ?_) (fun c0 => ?_)
  · skip
    refine AW.region ?_
    refine AOps.q rfl rfl rfl (q_mv rfl (rfl : _ = V.ptr _ _)) ?_
    refine AOps.q rfl rfl rfl (q_nc rfl (rfl : _ = V.ptr _ _) rfl) ?_
    refine AOps.q rfl rfl rfl (q_fa_b rfl Tryz.underlying69 rfl (by exact Tryz.sizeOf54) (by decide) rfl (rfl : _ = 39)) ?_
    refine AOps.s0 rfl rfl (a_store1 rfl Tryz.sizeOf54 rfl (by exact hb) (rfl : _ = V.snil) rfl rfl (by first | decide | exact Nat.le_of_ble_eq_true rfl) ?_)
    refine AOps.nil ?_
    refine AW.seq ?_
    refine AW.region ?_
    refine AOps.q rfl rfl rfl (q_mv rfl (rfl : _ = V.sl _ _ _ _)) ?_
    refine AOps.q rfl rfl rfl (q_as rfl (rfl : _ = V.sl _ _ _ _)) ?_
    refine AOps.nil ?_
    refine AW.ret ?_
    exact retQ.mk (.one _) ⟨rfl, by exact setBox_self hb⟩
  · cases c0

theorem dtaken_calls {p : V} {e : Int} {h : Hp} (hd : Dead p e h) : ACalls Tryz.prog G 40 [p] h fun r h' => r = ePds [] ∧ h' = h := by
  obtain ⟨a, ⟨rfl, rfl⟩ | ⟨id, m, ve, rfl, hb, rfl⟩⟩ := hd
  · exact takenNil_calls h
  · exact takenBox_calls hb a
/-- An act. -/
structure Act where
  k : Int
  a : Int
  b : Int
  c : Int
def cAct (x : Act) : List V := [.int .i64 x.k, .int .i64 x.a, .int .i64 x.b, .int .i64 x.c]
def cActs (l : List Act) : List V := l.flatMap cAct
def noAct : Act := ⟨0, 0, 0, 0⟩
theorem act_at {l : List Act} {i : Nat} (h : i < l.length) : ((cActs l).drop ((i : Int).toNat * 4)).take 4 = cAct (l.getD i noAct) := by
  rw [Int.toNat_natCast]; exact flat_at (f := cAct) (n := 4) (fun _ => rfl) noAct h

theorem ddo_calls (x : Act) {p : V} {e : Int} {h : Hp} (hd : Dead p e h) : ACalls Tryz.prog G 10 [p, .agg (cAct x)] h fun r h' => r = .int .i64 0 ∧ h' = h := by
  refine ACalls.enter Tryz.func10 rfl Tryz.ntmps10 Tryz.results10 rfl ?_
  refine AW.seq ?_
  refine AW.region ?_
  refine AOps.q rfl rfl rfl (q_boxa rfl (rfl : _ = V.agg _)) ?_
  refine AOps.q rfl rfl rfl (q_as rfl (rfl : _ = V.int _ _)) ?_
  refine AOps.nil ?_
  refine AW.seq ?_
  refine AW.seq ?_
  refine AW.region ?_
  refine AOps.q rfl rfl rfl (q_fa_i rfl Tryz.underlying37 rfl (by exact Tryz.sizeOf3) (by decide) rfl (rfl : _ = List.drop 0 _)) ?_
  refine AOps.q rfl rfl rfl (q_load_i1 rfl Tryz.isAgg3 rfl rfl) ?_
  refine AOps.nil ?_
  refine AW.block ?_
  refine AW.seq ?_
  refine AW.region ?_
  refine AOps.q rfl rfl rfl (q_eq rfl rfl rfl) ?_
  refine AOps.q rfl rfl rfl (q_as rfl (rfl : _ = V.bool _)) ?_
  refine AOps.nil ?_
  refine AW.cond rfl (fun c0 => ?_) (fun c0 => ?_)
  · skip
    refine AW.region ?_
    refine AOps.q rfl rfl rfl (q_mv rfl (rfl : _ = p)) ?_
    refine AOps.q rfl rfl rfl (q_fa_i rfl Tryz.underlying37 rfl (by exact Tryz.sizeOf3) (by decide) rfl (rfl : _ = List.drop 1 _)) ?_
    refine AOps.q rfl rfl rfl (q_load_i1 rfl Tryz.isAgg3 rfl rfl) ?_
    refine AOps.q rfl rfl rfl (q_fa_i rfl Tryz.underlying37 rfl (by exact Tryz.sizeOf3) (by decide) rfl (rfl : _ = List.drop 2 _)) ?_
    refine AOps.q rfl rfl rfl (q_load_i1 rfl Tryz.isAgg3 rfl rfl) ?_
    refine AOps.q rfl rfl rfl (q_fa_i rfl Tryz.underlying37 rfl (by exact Tryz.sizeOf3) (by decide) rfl (rfl : _ = List.drop 3 _)) ?_
    refine AOps.q rfl rfl rfl (q_load_i1 rfl Tryz.isAgg3 rfl rfl) ?_
    refine AOps.q rfl rfl rfl (QOp.call rfl (by exact Tryz.call30) fun h' hl' => by exact dset_calls _ _ _ (hd.le hl')) ?_
    refine AOps.nil ?_
    refine AW.seq ?_
    refine AW.region ?_
    refine AOps.q rfl rfl rfl (q_as rfl (rfl : _ = V.int _ _)) ?_
    refine AOps.nil ?_
    refine AW.ret ?_
    exact retQ.mk (.one _) ⟨rfl, rfl⟩
  · skip
    refine AW.seq ?_
    refine AW.region ?_
    refine AOps.q rfl rfl rfl (q_eq rfl rfl rfl) ?_
    refine AOps.q rfl rfl rfl (q_as rfl (rfl : _ = V.bool _)) ?_
    refine AOps.nil ?_
    refine AW.cond rfl (fun c1 => ?_) (fun c1 => ?_)
    · skip
      refine AW.region ?_
      refine AOps.q rfl rfl rfl (q_mv rfl (rfl : _ = p)) ?_
      refine AOps.q rfl rfl rfl (q_fa_i rfl Tryz.underlying37 rfl (by exact Tryz.sizeOf3) (by decide) rfl (rfl : _ = List.drop 1 _)) ?_
      refine AOps.q rfl rfl rfl (q_load_i1 rfl Tryz.isAgg3 rfl rfl) ?_
      refine AOps.q rfl rfl rfl (q_fa_i rfl Tryz.underlying37 rfl (by exact Tryz.sizeOf3) (by decide) rfl (rfl : _ = List.drop 2 _)) ?_
      refine AOps.q rfl rfl rfl (q_load_i1 rfl Tryz.isAgg3 rfl rfl) ?_
      refine AOps.q rfl rfl rfl (q_fa_i rfl Tryz.underlying37 rfl (by exact Tryz.sizeOf3) (by decide) rfl (rfl : _ = List.drop 3 _)) ?_
      refine AOps.q rfl rfl rfl (q_load_i1 rfl Tryz.isAgg3 rfl rfl) ?_
      refine AOps.q rfl rfl rfl (QOp.call rfl (by exact Tryz.call31) fun h' hl' => by exact dpl_calls _ _ _ (hd.le hl')) ?_
      refine AOps.nil ?_
      refine AW.seq ?_
      refine AW.region ?_
      refine AOps.q rfl rfl rfl (q_as rfl (rfl : _ = V.int _ _)) ?_
      refine AOps.nil ?_
      refine AW.ret ?_
      exact retQ.mk (.one _) ⟨rfl, rfl⟩
    · skip
      refine AW.seq ?_
      refine AW.region ?_
      refine AOps.q rfl rfl rfl (q_eq rfl rfl rfl) ?_
      refine AOps.q rfl rfl rfl (q_as rfl (rfl : _ = V.bool _)) ?_
      refine AOps.nil ?_
      refine AW.cond rfl (fun c2 => ?_) (fun c2 => ?_)
      · skip
        refine AW.region ?_
        refine AOps.q rfl rfl rfl (q_mv rfl (rfl : _ = p)) ?_
        refine AOps.q rfl rfl rfl (q_fa_i rfl Tryz.underlying37 rfl (by exact Tryz.sizeOf3) (by decide) rfl (rfl : _ = List.drop 1 _)) ?_
        refine AOps.q rfl rfl rfl (q_load_i1 rfl Tryz.isAgg3 rfl rfl) ?_
        refine AOps.q rfl rfl rfl (q_fa_i rfl Tryz.underlying37 rfl (by exact Tryz.sizeOf3) (by decide) rfl (rfl : _ = List.drop 2 _)) ?_
        refine AOps.q rfl rfl rfl (q_load_i1 rfl Tryz.isAgg3 rfl rfl) ?_
        refine AOps.q rfl rfl rfl (QOp.call rfl (by exact Tryz.call32) fun h' hl' => by exact dgame_calls _ _ (hd.le hl')) ?_
        refine AOps.nil ?_
        refine AW.seq ?_
        refine AW.region ?_
        refine AOps.q rfl rfl rfl (q_as rfl (rfl : _ = V.int _ _)) ?_
        refine AOps.nil ?_
        refine AW.ret ?_
        exact retQ.mk (.one _) ⟨rfl, rfl⟩
      · skip
        refine AW.seq ?_
        refine AW.region ?_
        refine AOps.q rfl rfl rfl (q_eq rfl rfl rfl) ?_
        refine AOps.q rfl rfl rfl (q_as rfl (rfl : _ = V.bool _)) ?_
        refine AOps.nil ?_
        refine AW.cond rfl (fun c3 => ?_) (fun c3 => ?_)
        · skip
          refine AW.region ?_
          refine AOps.q rfl rfl rfl (q_mv rfl (rfl : _ = p)) ?_
          refine AOps.q rfl rfl rfl (q_fa_i rfl Tryz.underlying37 rfl (by exact Tryz.sizeOf3) (by decide) rfl (rfl : _ = List.drop 1 _)) ?_
          refine AOps.q rfl rfl rfl (q_load_i1 rfl Tryz.isAgg3 rfl rfl) ?_
          refine AOps.q rfl rfl rfl (q_fa_i rfl Tryz.underlying37 rfl (by exact Tryz.sizeOf3) (by decide) rfl (rfl : _ = List.drop 2 _)) ?_
          refine AOps.q rfl rfl rfl (q_load_i1 rfl Tryz.isAgg3 rfl rfl) ?_
          refine AOps.q rfl rfl rfl (QOp.call rfl (by exact Tryz.call21) fun h' hl' => by exact dput_calls _ _ (hd.le hl')) ?_
          refine AOps.nil ?_
          refine AW.seq ?_
          refine AW.region ?_
          refine AOps.q rfl rfl rfl (q_as rfl (rfl : _ = V.int _ _)) ?_
          refine AOps.nil ?_
          refine AW.ret ?_
          exact retQ.mk (.one _) ⟨rfl, rfl⟩
        · skip
          refine AW.seq ?_
          refine AW.region ?_
          refine AOps.q rfl rfl rfl (q_eq rfl rfl rfl) ?_
          refine AOps.q rfl rfl rfl (q_as rfl (rfl : _ = V.bool _)) ?_
          refine AOps.nil ?_
          refine AW.cond rfl (fun c4 => ?_) (fun c4 => ?_)
          · skip
            refine AW.seq ?_
            refine AW.region ?_
            refine AOps.q rfl rfl rfl (q_mv rfl (rfl : _ = p)) ?_
            refine AOps.q rfl rfl rfl (q_fa_i rfl Tryz.underlying37 rfl (by exact Tryz.sizeOf3) (by decide) rfl (rfl : _ = List.drop 1 _)) ?_
            refine AOps.q rfl rfl rfl (q_load_i1 rfl Tryz.isAgg3 rfl rfl) ?_
            refine AOps.q rfl rfl rfl (q_fa_i rfl Tryz.underlying37 rfl (by exact Tryz.sizeOf3) (by decide) rfl (rfl : _ = List.drop 2 _)) ?_
            refine AOps.q rfl rfl rfl (q_load_i1 rfl Tryz.isAgg3 rfl rfl) ?_
            refine AOps.q rfl rfl rfl (q_fa_i rfl Tryz.underlying37 rfl (by exact Tryz.sizeOf3) (by decide) rfl (rfl : _ = List.drop 3 _)) ?_
            refine AOps.q rfl rfl rfl (q_load_i1 rfl Tryz.isAgg3 rfl rfl) ?_
            refine AOps.q rfl rfl rfl (QOp.call rfl (by exact Tryz.call33) fun h' hl' => by exact dmake_calls _ _ _ (hd.le hl')) ?_
            refine AOps.q rfl rfl rfl (q_as rfl (rfl : _ = V.int _ _)) ?_
            refine AOps.nil ?_
            refine AW.ret ?_
            exact retQ.mk (.one _) ⟨rfl, rfl⟩
          · skip
            refine AW.seq ?_
            refine AW.region ?_
            refine AOps.q rfl rfl rfl (q_eq rfl rfl rfl) ?_
            refine AOps.q rfl rfl rfl (q_as rfl (rfl : _ = V.bool _)) ?_
            refine AOps.nil ?_
            refine AW.cond rfl (fun c5 => ?_) (fun c5 => ?_)
            · skip
              refine AW.region ?_
              refine AOps.q rfl rfl rfl (q_mv rfl (rfl : _ = p)) ?_
              refine AOps.q rfl rfl rfl (q_fa_i rfl Tryz.underlying37 rfl (by exact Tryz.sizeOf3) (by decide) rfl (rfl : _ = List.drop 1 _)) ?_
              refine AOps.q rfl rfl rfl (q_load_i1 rfl Tryz.isAgg3 rfl rfl) ?_
              refine AOps.q rfl rfl rfl (q_fa_i rfl Tryz.underlying37 rfl (by exact Tryz.sizeOf3) (by decide) rfl (rfl : _ = List.drop 2 _)) ?_
              refine AOps.q rfl rfl rfl (q_load_i1 rfl Tryz.isAgg3 rfl rfl) ?_
              refine AOps.q rfl rfl rfl (QOp.call rfl (by exact Tryz.call34) fun h' hl' => by exact dlife_calls _ _ (hd.le hl')) ?_
              refine AOps.nil ?_
              refine AW.seq ?_
              refine AW.region ?_
              refine AOps.q rfl rfl rfl (q_as rfl (rfl : _ = V.int _ _)) ?_
              refine AOps.nil ?_
              refine AW.ret ?_
              exact retQ.mk (.one _) ⟨rfl, rfl⟩
            · skip
              refine AW.seq ?_
              refine AW.region ?_
              refine AOps.q rfl rfl rfl (q_eq rfl rfl rfl) ?_
              refine AOps.q rfl rfl rfl (q_as rfl (rfl : _ = V.bool _)) ?_
              refine AOps.nil ?_
              refine AW.cond rfl (fun c6 => ?_) (fun c6 => ?_)
              · skip
                refine AW.region ?_
                refine AOps.q rfl rfl rfl (q_mv rfl (rfl : _ = p)) ?_
                refine AOps.q rfl rfl rfl (q_fa_i rfl Tryz.underlying37 rfl (by exact Tryz.sizeOf3) (by decide) rfl (rfl : _ = List.drop 1 _)) ?_
                refine AOps.q rfl rfl rfl (q_load_i1 rfl Tryz.isAgg3 rfl rfl) ?_
                refine AOps.q rfl rfl rfl (q_fa_i rfl Tryz.underlying37 rfl (by exact Tryz.sizeOf3) (by decide) rfl (rfl : _ = List.drop 2 _)) ?_
                refine AOps.q rfl rfl rfl (q_load_i1 rfl Tryz.isAgg3 rfl rfl) ?_
                refine AOps.q rfl rfl rfl (q_fa_i rfl Tryz.underlying37 rfl (by exact Tryz.sizeOf3) (by decide) rfl (rfl : _ = List.drop 3 _)) ?_
                refine AOps.q rfl rfl rfl (q_load_i1 rfl Tryz.isAgg3 rfl rfl) ?_
                refine AOps.q rfl rfl rfl (QOp.call rfl (by exact Tryz.call35) fun h' hl' => by exact dmana_calls _ _ _ (hd.le hl')) ?_
                refine AOps.nil ?_
                refine AW.seq ?_
                refine AW.region ?_
                refine AOps.q rfl rfl rfl (q_as rfl (rfl : _ = V.int _ _)) ?_
                refine AOps.nil ?_
                refine AW.ret ?_
                exact retQ.mk (.one _) ⟨rfl, rfl⟩
              · skip
                refine AW.seq ?_
                refine AW.region ?_
                refine AOps.q rfl rfl rfl (q_eq rfl rfl rfl) ?_
                refine AOps.q rfl rfl rfl (q_as rfl (rfl : _ = V.bool _)) ?_
                refine AOps.nil ?_
                refine AW.cond rfl (fun c7 => ?_) (fun c7 => ?_)
                · skip
                  refine AW.region ?_
                  refine AOps.q rfl rfl rfl (q_mv rfl (rfl : _ = p)) ?_
                  refine AOps.q rfl rfl rfl (q_fa_i rfl Tryz.underlying37 rfl (by exact Tryz.sizeOf3) (by decide) rfl (rfl : _ = List.drop 1 _)) ?_
                  refine AOps.q rfl rfl rfl (q_load_i1 rfl Tryz.isAgg3 rfl rfl) ?_
                  refine AOps.q rfl rfl rfl (QOp.call rfl (by exact Tryz.call36) fun h' hl' => by exact ddraw_calls _ (hd.le hl')) ?_
                  refine AOps.nil ?_
                  refine AW.seq ?_
                  refine AW.region ?_
                  refine AOps.q rfl rfl rfl (q_as rfl (rfl : _ = V.int _ _)) ?_
                  refine AOps.nil ?_
                  refine AW.ret ?_
                  exact retQ.mk (.one _) ⟨rfl, rfl⟩
                · skip
                  refine AW.seq ?_
                  refine AW.region ?_
                  refine AOps.q rfl rfl rfl (q_eq rfl rfl rfl) ?_
                  refine AOps.q rfl rfl rfl (q_as rfl (rfl : _ = V.bool _)) ?_
                  refine AOps.nil ?_
                  refine AW.cond rfl (fun c8 => ?_) (fun c8 => ?_)
                  · skip
                    refine AW.seq ?_
                    refine AW.region ?_
                    refine AOps.q rfl rfl rfl (q_mv rfl (rfl : _ = p)) ?_
                    refine AOps.q rfl rfl rfl (q_fa_i rfl Tryz.underlying37 rfl (by exact Tryz.sizeOf3) (by decide) rfl (rfl : _ = List.drop 1 _)) ?_
                    refine AOps.q rfl rfl rfl (q_load_i1 rfl Tryz.isAgg3 rfl rfl) ?_
                    refine AOps.q rfl rfl rfl (QOp.call rfl (by exact Tryz.call37) fun h' hl' => by exact dpick_calls _ (hd.le hl')) ?_
                    refine AOps.q rfl rfl rfl (q_as rfl (rfl : _ = V.int _ _)) ?_
                    refine AOps.nil ?_
                    refine AW.ret ?_
                    exact retQ.mk (.one _) ⟨rfl, rfl⟩
                  · skip
                    refine AW.seq ?_
                    refine AW.region ?_
                    refine AOps.q rfl rfl rfl (q_eq rfl rfl rfl) ?_
                    refine AOps.q rfl rfl rfl (q_as rfl (rfl : _ = V.bool _)) ?_
                    refine AOps.nil ?_
                    refine AW.cond rfl (fun c9 => ?_) (fun c9 => ?_)
                    · skip
                      refine AW.region ?_
                      refine AOps.q rfl rfl rfl (q_mv rfl (rfl : _ = p)) ?_
                      refine AOps.q rfl rfl rfl (q_fa_i rfl Tryz.underlying37 rfl (by exact Tryz.sizeOf3) (by decide) rfl (rfl : _ = List.drop 1 _)) ?_
                      refine AOps.q rfl rfl rfl (q_load_i1 rfl Tryz.isAgg3 rfl rfl) ?_
                      refine AOps.q rfl rfl rfl (QOp.call rfl (by exact Tryz.call38) fun h' hl' => by exact dshuffle_calls _ (hd.le hl')) ?_
                      refine AOps.nil ?_
                      refine AW.seq ?_
                      refine AW.region ?_
                      refine AOps.q rfl rfl rfl (q_as rfl (rfl : _ = V.int _ _)) ?_
                      refine AOps.nil ?_
                      refine AW.ret ?_
                      exact retQ.mk (.one _) ⟨rfl, rfl⟩
                    · skip
                      refine AW.seq ?_
                      refine AW.region ?_
                      refine AOps.q rfl rfl rfl (q_eq rfl rfl rfl) ?_
                      refine AOps.q rfl rfl rfl (q_as rfl (rfl : _ = V.bool _)) ?_
                      refine AOps.nil ?_
                      refine AW.cond rfl (fun c10 => ?_) (fun c10 => ?_)
                      · skip
                        refine AW.region ?_
                        refine AOps.q rfl rfl rfl (q_mv rfl (rfl : _ = p)) ?_
                        refine AOps.q rfl rfl rfl (q_fa_i rfl Tryz.underlying37 rfl (by exact Tryz.sizeOf3) (by decide) rfl (rfl : _ = List.drop 1 _)) ?_
                        refine AOps.q rfl rfl rfl (q_load_i1 rfl Tryz.isAgg3 rfl rfl) ?_
                        refine AOps.q rfl rfl rfl (q_fa_i rfl Tryz.underlying37 rfl (by exact Tryz.sizeOf3) (by decide) rfl (rfl : _ = List.drop 2 _)) ?_
                        refine AOps.q rfl rfl rfl (q_load_i1 rfl Tryz.isAgg3 rfl rfl) ?_
                        refine AOps.q rfl rfl rfl (QOp.call rfl (by exact Tryz.call39) fun h' hl' => by exact dshow_calls _ _ (hd.le hl')) ?_
                        refine AOps.nil ?_
                        refine AW.seq ?_
                        refine AW.region ?_
                        refine AOps.q rfl rfl rfl (q_as rfl (rfl : _ = V.int _ _)) ?_
                        refine AOps.nil ?_
                        refine AW.ret ?_
                        exact retQ.mk (.one _) ⟨rfl, rfl⟩
                      · skip
                        refine AW.seq ?_
                        refine AW.region ?_
                        refine AOps.q rfl rfl rfl (q_eq rfl rfl rfl) ?_
                        refine AOps.q rfl rfl rfl (q_as rfl (rfl : _ = V.bool _)) ?_
                        refine AOps.nil ?_
                        refine AW.cond rfl (fun c11 => ?_) (fun c11 => ?_)
                        · skip
                          refine AW.seq ?_
                          refine AW.region ?_
                          refine AOps.q rfl rfl rfl (q_mv rfl (rfl : _ = p)) ?_
                          refine AOps.q rfl rfl rfl (QOp.call rfl (by exact Tryz.call40) fun h' hl' => by exact dtaken_calls  (hd.le hl')) ?_
                          refine AOps.q rfl rfl rfl (q_len rfl Tryz.underlying54 rfl) ?_
                          refine AOps.q rfl rfl rfl (q_as rfl (rfl : _ = V.int _ _)) ?_
                          refine AOps.nil ?_
                          refine AW.ret ?_
                          exact retQ.mk (.one _) ⟨rfl, rfl⟩
                        · skip
                          refine AW.skip ?_
                          refine AW.seq ?_
                          refine AW.region ?_
                          refine AOps.q rfl rfl rfl (q_as rfl (rfl : _ = V.int _ _)) ?_
                          refine AOps.nil ?_
                          refine AW.ret ?_
                          exact retQ.mk (.one _) ⟨rfl, rfl⟩

theorem long19_calls (s : St) (k1 k2 : SK) (n1 n2 : Nat) (c1 c2 : List V) (h : Hp) : ACalls Tryz.prog G 7 [eState s, .sl k1 1 n1 c1, .sl k2 4 n2 c2] h fun r h' => r = .bool (bif (bif longF s 30 then true else decide ((n1 : Int) > 5000)) then true else decide ((n2 : Int) > 20)) ∧ h' = h := by
  refine ACalls.enter Tryz.func7 rfl Tryz.ntmps7 Tryz.results7 rfl ?_
  refine AW.seq ?_
  refine AW.region ?_
  refine AOps.q rfl rfl rfl (q_boxa rfl (rfl : _ = V.agg _)) ?_
  refine AOps.q rfl rfl rfl (q_as rfl (rfl : _ = V.bool _)) ?_
  refine AOps.nil ?_
  refine AW.seq ?_
  refine AW.region ?_
  refine AOps.q rfl rfl rfl (q_load_iW rfl Tryz.isAgg29 Tryz.sizeOf29 rfl (by rfl)) ?_
  refine AOps.q rfl rfl rfl (QOp.call rfl (by exact Tryz.call22) fun h' hl' => by exact long_calls s 30 (by decide) h') ?_
  refine AOps.q rfl rfl rfl (q_mv rfl (rfl : _ = V.bool _)) ?_
  refine AOps.g (wanted_f rfl rfl) rfl rfl (fun hc => TLe.refl _) (fun hc => q_mv rfl (rfl : _ = V.sl _ _ _ _)) ?_
  refine AOps.g (wanted_f rfl rfl) rfl rfl (fun hc => TLe.put (d := 10) (VLe.opt hc) (TLe.refl _)) (fun hc => q_len rfl Tryz.underlying23 rfl) ?_
  refine AOps.g (wanted_f rfl rfl) rfl rfl (fun hc => TLe.put (d := 11) (VLe.opt hc) (TLe.refl _)) (fun hc => q_gt rfl rfl rfl) ?_
  refine AOps.q rfl rfl rfl (q_pickg rfl rfl (fun hp => by exact VLe.refl _) (fun hp => by first | exact VLe.opt hp | exact VLe.opt (by rw [hp]; rfl) | exact VLe.opt (by simp_all))) ?_
  refine AOps.q rfl rfl rfl (q_mv rfl (rfl : _ = V.bool _)) ?_
  refine AOps.g (wanted_f rfl rfl) rfl rfl (fun hc => TLe.refl _) (fun hc => q_mv rfl (rfl : _ = V.sl _ _ _ _)) ?_
  refine AOps.g (wanted_f rfl rfl) rfl rfl (fun hc => TLe.put (d := 15) (VLe.opt hc) (TLe.refl _)) (fun hc => q_len rfl Tryz.underlying30 rfl) ?_
  refine AOps.g (wanted_f rfl rfl) rfl rfl (fun hc => TLe.put (d := 16) (VLe.opt hc) (TLe.refl _)) (fun hc => q_gt rfl rfl rfl) ?_
  refine AOps.q rfl rfl rfl (q_pickg rfl rfl (fun hp => by exact VLe.refl _) (fun hp => by first | exact VLe.opt hp | exact VLe.opt (by rw [hp]; rfl) | exact VLe.opt (by simp_all))) ?_
  refine AOps.q rfl rfl rfl (q_as rfl (rfl : _ = V.bool _)) ?_
  refine AOps.nil ?_
  refine AW.ret ?_
  exact retQ.mk (.one _) ⟨rfl, rfl⟩

end Go.Proofs.YtnfpbjblbfcecaaGreatDoor
