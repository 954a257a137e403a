/- Walks: what becomes pending. -/
import Derived.Test.YtnbmcbkokaoapaaGreatDoorUses
import Derived.Test.YtnbmcbkokaoapaaGreatDoorEm4
namespace Go.Proofs.YtnbmcbkokaoapaaGreatDoor
open Go Go.AV
set_option maxRecDepth 100000
set_option maxHeartbeats 1000000
theorem setTok_comm (h : Hp) {i j : Nat} (a b : Nat) (e : i ≠ j) : (h.setTok i a).setTok j b = (h.setTok j b).setTok i a := by
  simp only [Hp.setTok]; congr 1; funext k
  by_cases h1 : k = i
  · subst h1; simp [e]
  · by_cases h2 : k = j
    · subst h2; simp [h1]
    · simp [h1, h2]
/-- Two rows, in either order. -/
theorem tok_swap {v u : V} {h : Hp} (fu : vFresh u h) (fv : vFresh v (addTok u h)) : addTok v (addTok u h) = addTok u (addTok v h) ∧ vFresh v h ∧ vFresh u (addTok v h) := by
  by_cases hv : ∃ t n len cs, v = .sl (.own t) n len cs
  · obtain ⟨t, n, len, cs, rfl⟩ := hv
    by_cases hu : ∃ t n len cs, u = .sl (.own t) n len cs
    · obtain ⟨t2, n2, len2, cs2, rfl⟩ := hu
      have hne : t ≠ t2 := fun e => by subst e; have := fv.2; simp [addTok] at this
      refine ⟨setTok_comm _ _ _ hne.symm, ⟨fv.1, ?_⟩, ⟨fu.1, ?_⟩⟩
      · have := fv.2; simp only [addTok] at this; rwa [Hp.tok_setTok_ne _ _ hne] at this
      · show (h.setTok t _).tok t2 = none
        rw [Hp.tok_setTok_ne _ _ hne.symm]; exact fu.2
    · have e : ∀ h, addTok u h = h := fun h => by unfold addTok; split <;> first | rfl | (rename_i t n len cs; exact absurd ⟨t, n, len, cs, rfl⟩ hu)
      refine ⟨by rw [e, e], by rwa [e] at fv, ?_⟩
      unfold vFresh; split <;> first | trivial | (rename_i t n len cs; exact absurd ⟨t, n, len, cs, rfl⟩ hu)
  · have e : ∀ h, addTok v h = h := fun h => by unfold addTok; split <;> first | rfl | (rename_i t n len cs; exact absurd ⟨t, n, len, cs, rfl⟩ hv)
    refine ⟨by rw [e, e], ?_, by rw [e]; exact fu⟩
    unfold vFresh; split <;> first | trivial | (rename_i t n len cs; exact absurd ⟨t, n, len, cs, rfl⟩ hv)
theorem em_acc_p {h0 : Hp} {id : Nat} {m : Em} {ve vp : V} (r : EmR h0 id m ve vp) (cs : List V) : Go.AV.Acc ((addTok ve h0).setBox id cs) 3 m.pend.length (cPds m.pend) vp ((addTok ve (addTok vp h0)).setBox id cs) := by
  obtain ⟨s1, s2, s3⟩ := tok_swap r.fp r.fe
  rw [s1]
  refine acc_iff.2 ⟨r.ap, ?_, (addTok_setBox _ _ _ _).symm⟩
  have h2 := r.fi.2
  rw [s1] at h2
  unfold vFresh at *
  split
  · rename_i t n len c
    simp only [addTok] at h2
    have hne : t ≠ id := fun e => by subst e; simp at h2
    exact ⟨by rw [Hp.box_setBox_ne _ _ hne]; exact s3.1, s3.2⟩
  · trivial
theorem em_app_p {h0 h' : Hp} {id : Nat} {m : Em} {ve vp v' : V} {cs : List V} {x : Pd} (r : EmR h0 id m ve vp) (acc : Go.AV.Acc ((addTok ve h0).setBox id cs) 3 (m.pend.length + 1) (cPds m.pend ++ cPd x) v' h') :
    h'.box id = some cs ∧ (v'.cells = [v'] ∧ v'.solid = true) ∧ (∀ cs', h'.setBox id cs' = (addTok ve (addTok v' h0)).setBox id cs') ∧ EmR h0 id ⟨m.now, m.draws, m.evs, m.pend ++ [x], m.err⟩ ve v' := by
  obtain ⟨a, f, rfl⟩ := acc_iff.1 acc
  obtain ⟨s1, s2, s3⟩ := tok_swap r.fp r.fe
  have hc : cPds (m.pend ++ [x]) = cPds m.pend ++ cPd x := by simp [cPds]
  have hid : (addTok ve h0).fresh id := by
    refine ⟨by have := r.fi.1; rw [addTok_box, addTok_box] at this; rwa [addTok_box], ?_⟩
    cases e : (addTok ve h0).tok id with
    | none => rfl
    | some n => have := (addTok_le s3).tok id n e; rw [← s1, r.fi.2] at this; cases this
  have fe : vFresh v' (addTok ve h0) ∧ (addTok v' (addTok ve h0)).tok id = none := by
    unfold vFresh addTok at *
    split
    · rename_i t n len c
      simp only at f
      have hne : t ≠ id := fun e => by subst e; have := f.1; simp at this
      exact ⟨⟨by have := f.1; rwa [Hp.box_setBox_ne _ _ hne] at this, f.2⟩, by rw [Hp.tok_setTok_ne _ _ hne.symm]; exact hid.2⟩
    · exact ⟨trivial, hid.2⟩
  obtain ⟨q1, q2, q3⟩ := tok_swap s2 fe.1
  refine ⟨by rw [addTok_box, Hp.box_setBox], a.cells, fun cs' => by rw [addTok_setBox, Hp.setBox_setBox, q1], ?_⟩
  exact ⟨r.ae, by simpa [hc] using a, q2, q3, ⟨by rw [addTok_box, addTok_box]; have := hid.1; rwa [addTok_box] at this, by rw [← q1]; exact fe.2⟩⟩

def Em.add (m : Em) (i ctl : Int) (l : List Int) : Em := ⟨m.now, m.draws, m.evs, m.pend ++ l.map (fun k => ⟨i, k, ctl⟩), m.err⟩
def Em.awaitF (m : Em) (i w ctl : Int) : Em := (m.fail (cardE (m.now.objs.getD i.toNat noObj 0)).2).add i ctl (usesF (cardE (m.now.objs.getD i.toNat noObj 0)).1 w)
theorem add_next {m : Em} {i ctl : Int} {l : List Int} {q : Nat} (h : q < l.length) : m.add i ctl (l.take (q + 1)) = ⟨(m.add i ctl (l.take q)).now, m.draws, m.evs, (m.add i ctl (l.take q)).pend ++ [⟨i, l.getD q 0, ctl⟩], m.err⟩ := by
  simp only [Em.add, List.take_add_one, List.getElem?_eq_getElem h, getD_of h, Option.toList_some, List.map_append, List.map_cons, List.map_nil, List.append_assoc]

theorem await_calls (i w ctl : Int) {h0 : Hp} {id : Nat} {m : Em} {h : Hp} (he : EmAt h0 id m h) (hi : 0 ≤ i ∧ i < m.now.objs.length) (hp : m.pend.length ≤ 1000000) : ACalls Tryz.prog G 89 [.ptr id 0, .int .i64 i, .int .i64 w, .int .i64 ctl] h fun r h' => r = .tup [] ∧ EmAt h0 id (m.awaitF i w ctl) h' := by
  obtain ⟨ve, vp, hr, rfl⟩ := he
  obtain ⟨cd, hcd⟩ : ∃ cd, cd = cardE (m.now.objs.getD i.toNat noObj 0) := ⟨_, rfl⟩
  have habs : cd.1.abs.length ≤ 1000 := by rw [hcd]; have := cardE_abs (m.now.objs.getD i.toNat noObj 0); omega
  have hus : (usesF cd.1 w).length ≤ 1000 := Nat.le_trans uses_le habs
  have hpf : (m.fail cd.2).pend.length ≤ 1000000 := by unfold Em.fail; split <;> exact hp
  refine ACalls.enter Tryz.func89 rfl Tryz.ntmps89 Tryz.results89 rfl ?_
  refine AW.seq ?_
  refine AW.region ?_
  refine AOps.q rfl rfl rfl (q_mv rfl (rfl : _ = V.ptr _ _)) ?_
  refine AOps.q rfl rfl rfl (q_nc rfl (rfl : _ = V.ptr _ _) rfl) ?_
  refine AOps.q rfl rfl rfl (q_fa_b rfl Tryz.underlying57 rfl (by exact Tryz.sizeOf29) (by decide) rfl (rfl : _ = 0)) ?_
  refine AOps.q rfl rfl rfl (q_fa_b rfl Tryz.underlying29 rfl (by exact Tryz.sizeOf22) (by decide) rfl (rfl : _ = 0)) ?_
  refine AOps.q rfl rfl rfl (q_load_b1 rfl Tryz.isAgg22 rfl (by exact Hp.box_setBox _ _ _) rfl) ?_
  refine AOps.q rfl rfl rfl (q_mv rfl (rfl : _ = V.int _ _)) ?_
  refine AOps.q rfl rfl rfl (q_ia_s rfl Tryz.underlying22 Tryz.sizeOf49 rfl rfl (by omega) (by omega) (cObjs_elem' (by omega) (by omega))) ?_
  refine AOps.q rfl rfl rfl (q_ia_ai rfl Tryz.underlying49 Tryz.sizeOf3 rfl rfl (by decide) (by decide) rfl) ?_
  refine AOps.q rfl rfl rfl (q_load_i1 rfl Tryz.isAgg3 rfl rfl) ?_
  refine AOps.q rfl rfl rfl (QOp.call (x := .tup [eCard cd.1, eE cd.2]) rfl (by exact Tryz.call112) fun h' hl' => by rw [hcd]; exact card_calls _ h') ?_
  refine AOps.q rfl rfl rfl (q_mv rfl (rfl : _ = V.tup _)) ?_
  refine AOps.q rfl rfl rfl (q_extract rfl rfl rfl) ?_
  refine AOps.q rfl rfl rfl (q_extract rfl rfl rfl) ?_
  refine AOps.s rfl rfl rfl (a_alloc rfl Tryz.zeroValue92 rfl (fun id8 hid8 => ?_))
  refine AOps.s0 rfl rfl (a_storeWA rfl Tryz.sizeOf92 rfl rfl (rfl : _ = V.agg _) rfl rfl ?_)
  refine AOps.done 8 rfl hid8 ?_
  refine AOps.q rfl rfl rfl (q_as rfl (rfl : _ = eErr _ _)) ?_
  refine AOps.nil ?_
  refine AW.seq ?_
  refine AW.region ?_
  refine AOps.q rfl rfl rfl (q_mv rfl (rfl : _ = V.ptr _ _)) ?_
  refine AOps.q rfl rfl rfl (q_mv rfl (rfl : _ = eErr _ _)) ?_
  refine AOps.s rfl rfl rfl ((AStep.call rfl (by exact Tryz.call31) (fail_calls _ ve vp cd.2 id _)).mono ?_)
  rintro x3 h3 ⟨rfl, rfl⟩
  refine AOps.nil ?_
  refine AW.seq ?_
  refine AW.region ?_
  refine AOps.q rfl rfl rfl (q_load_iW rfl Tryz.isAgg92 Tryz.sizeOf92 rfl (by rfl)) ?_
  refine AOps.q rfl rfl rfl (q_mv rfl (rfl : _ = V.int _ _)) ?_
  refine AOps.q rfl rfl rfl (QOp.call rfl (by exact Tryz.call113) fun h' hl' => by exact uses_calls cd.1 w habs h') ?_
  refine AOps.q rfl rfl rfl (q_len rfl Tryz.underlying23 rfl) ?_
  refine AOps.q rfl rfl rfl (q_mv rfl (rfl : _ = V.int _ _)) ?_
  refine AOps.nil ?_
  refine AW.block ?_
  refine AW.loop (fun n T hh => ∃ (q : Nat) , q ≤ (usesF cd.1 w).length ∧ n = (usesF cd.1 w).length - q ∧ T = put (put (put (put (put (put (T0) 32 (V.int .i64 (q : Nat))) 31 (V.int .i64 (usesF cd.1 w).length)) 30 (eInts (usesF cd.1 w))) 3 (V.int .i64 ctl)) 1 (V.int .i64 i)) 0 (V.ptr id 0) ∧ EmAt h0 id ((m.fail cd.2).add i ctl ((usesF cd.1 w).take q)) hh) ((usesF cd.1 w).length) ?_ ?_
  · skip
    refine Wk.mk (TLe.put (d := 0) (VLe.refl _) (TLe.put (d := 1) (VLe.refl _) (TLe.put (d := 3) (VLe.refl _) (TLe.put (d := 30) (VLe.refl _) (TLe.put (d := 31) (VLe.refl _) (TLe.put (d := 32) (by exact VLe.of_eq (congrArg (V.int .i64) (by first | rfl | omega))) (TLe.zero _))))))) (HLe.refl _) ⟨0, Nat.zero_le _, rfl, rfl, by rw [List.take_zero]; have := fail_at hr cd.2; simpa [Em.add] using this⟩
  · skip
    rintro n T h' ⟨q, hq, rfl, rfl, hem⟩
    refine AW.seq ?_
    refine AW.region ?_
    refine AOps.q rfl rfl rfl (q_lt rfl rfl rfl) ?_
    refine AOps.nil ?_
    refine AW.seq ?_
    refine AW.cond rfl (fun c0 => ?_) (fun c0 => ?_)
    · have hltq : q < (usesF cd.1 w).length := by have := of_decide_eq_true c0; omega
      obtain ⟨ve2, vp2, hr2, rfl⟩ := hem
      have hpl : ((m.fail cd.2).add i ctl ((usesF cd.1 w).take q)).pend.length ≤ 1002000 := by simp only [Em.add, List.length_append, List.length_map, List.length_take]; omega
      refine AW.skip ?_
      refine AW.seq ?_
      refine AW.block ?_
      refine AW.seq ?_
      refine AW.region ?_
      refine AOps.q rfl rfl rfl (q_ia_s rfl Tryz.underlying23 Tryz.sizeOf3 rfl rfl (by omega) (by omega) (cInts_at hltq)) ?_
      refine AOps.q rfl rfl rfl (q_load_i1 rfl Tryz.isAgg3 rfl rfl) ?_
      refine AOps.q rfl rfl rfl (q_as rfl (rfl : _ = V.int _ _)) ?_
      refine AOps.nil ?_
      refine AW.region ?_
      refine AOps.q rfl rfl rfl (q_mv rfl (rfl : _ = V.ptr _ _)) ?_
      refine AOps.q rfl rfl rfl (q_mv rfl (rfl : _ = V.ptr _ _)) ?_
      refine AOps.q rfl rfl rfl (q_nc rfl (rfl : _ = V.ptr _ _) rfl) ?_
      refine AOps.q rfl rfl rfl (q_fa_b rfl Tryz.underlying57 rfl (by exact Tryz.sizeOf55) (by decide) rfl (rfl : _ = 39)) ?_
      refine AOps.q rfl rfl rfl (q_load_b1 rfl Tryz.isAgg55 rfl (by exact Hp.box_setBox _ _ _) rfl) ?_
      refine AOps.q rfl rfl rfl (q_mv rfl (rfl : _ = V.int _ _)) ?_
      refine AOps.q rfl rfl rfl (q_mv rfl (rfl : _ = V.int _ _)) ?_
      refine AOps.q rfl rfl rfl (q_mv rfl (rfl : _ = V.int _ _)) ?_
      refine AOps.q rfl rfl rfl (q_buildS (ds := cPd ⟨i, (usesF cd.1 w).getD q 0, ctl⟩) rfl Tryz.zeroValue77 Tryz.underlying77 (pl77 Tryz.underlying77) rfl (by kernel_rfl)) ?_
      refine AOps.q rfl rfl rfl (q_buildSl (ds := cPd ⟨i, (usesF cd.1 w).getD q 0, ctl⟩) rfl Tryz.underlying55 Tryz.sizeOf77 Tryz.zeroValue77 rfl rfl rfl rfl (by kernel_rfl)) ?_
      refine AOps.s rfl rfl rfl (a_append rfl Tryz.underlying55 (i := Tryz.t77) (by kernel_rfl) rfl (n := 3) (by' := 24) rfl rfl rfl rfl (em_acc_p hr2 _) rfl rfl (by decide) (by omega) (by omega) rfl (fun v3 h3 acc => ?_))
      obtain ⟨hb3, hc3, hs3, hr3⟩ := em_app_p hr2 acc
      refine AOps.q rfl rfl rfl (q_nc rfl (rfl : _ = V.ptr _ _) rfl) ?_
      refine AOps.q rfl rfl rfl (q_fa_b rfl Tryz.underlying57 rfl (by exact Tryz.sizeOf55) (by decide) rfl (rfl : _ = 39)) ?_
      refine AOps.s0 rfl rfl (a_store1 rfl Tryz.sizeOf55 rfl (by exact hb3) (rfl : _ = v3) hc3.1 hc3.2 (by exact Nat.le_of_ble_eq_true rfl) ?_)
      refine AOps.nil ?_
      refine AW.region ?_
      refine AOps.q rfl rfl rfl (q_add' rfl rfl rfl (by omega)) ?_
      refine AOps.q rfl rfl rfl (q_mv rfl (rfl : _ = V.int _ _)) ?_
      refine AOps.nil ?_
      refine Wk.mk (TLe.put (d := 0) (VLe.refl _) (TLe.put (d := 1) (VLe.refl _) (TLe.put (d := 3) (VLe.refl _) (TLe.put (d := 30) (VLe.refl _) (TLe.put (d := 31) (VLe.refl _) (TLe.put (d := 32) (by exact VLe.of_eq (congrArg (V.int .i64) (by first | rfl | omega))) (TLe.zero _))))))) (HLe.refl _) ⟨_, ?_, q + 1, ?_, rfl, rfl, by rw [add_next hltq]; exact ⟨ve2, v3, hr3, hs3 _⟩⟩
      · omega
      · omega
    · obtain rfl : q = (usesF cd.1 w).length := by have := of_decide_eq_false c0; omega
      refine AW.exit ?_
      rw [List.take_length] at hem
      exact retQ.mk .none ⟨rfl, by rw [Em.awaitF, ← hcd]; exact hem⟩

end Go.Proofs.YtnbmcbkokaoapaaGreatDoor
