/- Plain: behind rounds that ended by themselves no round does anything. -/
import Derived.Test.YtnbmcbkokaoapaaGreatDoorPlain3
import Derived.Test.YtnbmcbkokaoapaaGreatDoorLawa
namespace Go.Proofs.YtnbmcbkokaoapaaGreatDoor
open Go Go.AV
theorem setGame_right {s : St} {v : Int} (hs : Rt s) (hv : 0 ≤ v ∧ v ≤ 3) : Rt ⟨s.objs, s.lists, s.pl, upd s.game 6 v⟩ := by
  refine ⟨hs.objs, hs.ob, hs.pl, all_up.2 fun f hf => ?_, hs.st, hs.nd, hs.tot, hs.fm, hs.few⟩
  have := all_up.1 hs.gm f hf
  show inB (upd s.game 6 v f) 0 (gHi f) = true
  simp only [upd]; split
  · rename_i e; subst e; exact inB_iff.2 ⟨hv.1, hv.2⟩
  · exact this
theorem gameF_at {m : Em} {v : Int} (he : m.err = 0) (hk : m.evs.length < 65536) (hv : 0 ≤ v ∧ v ≤ 3) : (m.gameF 6 v).err = 0 ∧ (m.gameF 6 v).now = ⟨m.now.objs, m.now.lists, m.now.pl, upd m.now.game 6 v⟩ ∧ (m.gameF 6 v).evs.length ≤ m.evs.length + 1 := by
  have hc0 : evCheck ⟨4, 0, 6, 0, 0, 0⟩ = 0 := by decide
  have hc : ∀ was, evCheck ⟨4, 0, 6, was, v, 0⟩ = 0 := fun was => by
    simp [evCheck, evSpare, evMakes, evRanges, inN, small]; omega
  unfold Em.gameF
  rw [if_neg (by simpa using he), if_neg (by rw [hc0]; simp)]
  unfold Em.set
  split
  · rename_i e
    rw [show evCheck _ = 0 from hc _, fail_zero he]
    refine ⟨he, ?_, Nat.le_succ _⟩
    have e : m.now.game 6 = v := e
    rw [← e, upd_self]
  · rename_i hne
    have hne : m.now.game 6 ≠ v := hne
    show (m.do1 ⟨4, 0, 6, m.now.game 6, v, 0⟩).err = 0 ∧ (m.do1 ⟨4, 0, 6, m.now.game 6, v, 0⟩).now = _ ∧ (m.do1 ⟨4, 0, 6, m.now.game 6, v, 0⟩).evs.length ≤ _
    have hd : evDo m.now ⟨4, 0, 6, m.now.game 6, v, 0⟩ = (⟨m.now.objs, m.now.lists, m.now.pl, upd m.now.game 6 v⟩, 0) := by
      rw [do_4 (hc _) ⟨show (4 : Int) ≠ 0 by decide, show (4 : Int) ≠ 5 by decide⟩ (show (4 : Int) ≠ 1 by decide) (show (4 : Int) ≠ 2 by decide) (show (4 : Int) ≠ 3 by decide)]
      exact if_neg (by simp)
    unfold Em.do1
    rw [if_neg (by simpa using he), hd, if_neg (by simp), if_pos hk]
    exact ⟨he, rfl, by simp⟩
theorem home_grave {o : Obj} (h : 0 ≤ o 1 ∧ o 1 ≤ 1) : homeF o 4 ≠ 8 := by
  unfold homeF zoneF; simp only; split <;> (try split) <;> omega
/-- Putting what stands on the field to the grave. -/
theorem grave_at {m : Em} {i : Int} (hs : Rt m.now) (he : m.err = 0) (hi : i ∈ m.now.lists 8) (hk : m.evs.length + 14 ≤ 65536) :
    (m.putF i 4).err = 0 ∧ Rt (m.putF i 4).now ∧ (m.putF i 4).evs.length ≤ m.evs.length + 14 ∧ (m.putF i 4).now.lists 8 = (m.now.lists 8).erase i ∧ (m.putF i 4).now.game = m.now.game ∧ (m.putF i 4).now.pl = m.now.pl ∧ (m.putF i 4).now.objs.length = m.now.objs.length := by
  obtain ⟨q1, q2, q3, q4⟩ := hs.at_list (z := 8) (by decide) hi
  have hb : basesF 4 = true := by decide
  have e8 : (m.now.objs.getD i.toNat noObj 3).toNat = 8 := by rw [q3]; rfl
  have hi' : i ∈ m.now.lists (m.now.objs.getD i.toNat noObj 3).toNat := by rw [e8]; exact hi
  obtain ⟨a, b, c⟩ := putF_at hs he ⟨q1, q2⟩ hi' hb hk
  have hr := putS_right hs ⟨q1, q2⟩ hi' hb
  refine ⟨a, by rw [b]; exact hr, c, ?_, by rw [b]; rfl, by rw [b]; rfl, by rw [b]; simp [putS]⟩
  rw [b]
  show putLists m.now.lists i (m.now.objs.getD i.toNat noObj 3) (homeF (m.now.objs.getD i.toNat noObj) 4) 8 = _
  have hto := home_in (o := m.now.objs.getD i.toNat noObj) hb
  have hne := home_grave (o := m.now.objs.getD i.toNat noObj) (hs.fld (by omega) 1 (by decide))
  unfold putLists
  simp only [upd]
  rw [if_neg (by omega), if_pos e8.symm, e8]
theorem grave_all {l : List Int} : ∀ {m : Em}, Rt m.now → m.err = 0 → l.Nodup → (∀ i ∈ l, i ∈ m.now.lists 8) → m.evs.length + 14 * l.length ≤ 65536 →
    (m.putL l).err = 0 ∧ Rt (m.putL l).now ∧ (m.putL l).evs.length ≤ m.evs.length + 14 * l.length ∧ (m.putL l).now.lists 8 = (m.now.lists 8).filter (fun x => !(l.contains x)) ∧ ((m.putL l).now.lists 8).length + l.length = (m.now.lists 8).length ∧ (m.putL l).now.game = m.now.game ∧ (m.putL l).now.pl = m.now.pl ∧ (m.putL l).now.objs.length = m.now.objs.length := by
  induction l with
  | nil =>
    intro m hs he _ _ _
    refine ⟨he, hs, Nat.le_refl _, ?_, rfl, rfl, rfl, rfl⟩
    show m.now.lists 8 = _
    exact (List.filter_eq_self.2 fun x _ => by simp).symm
  | cons i l ih =>
    intro m hs he hnd hall hk
    have hk : m.evs.length + 14 * (l.length + 1) ≤ 65536 := hk
    have hi := hall i (by simp)
    obtain ⟨a, b, c, d, e, f, g⟩ := grave_at hs he hi (by omega)
    have hndl := (List.nodup_cons.1 hnd)
    have hn8 : (m.now.lists 8).Nodup := nodup_count.2 fun x => Nat.le_trans (cnt_ge (n := 11) (by decide)) (hs.nd x)
    obtain ⟨a', b', c', d', k', e', f', g'⟩ := ih (m := m.putF i 4) b a hndl.2 (fun j hj => by
      rw [d]; exact (List.mem_erase_of_ne (fun e => by subst e; exact hndl.1 hj)).2 (hall j (by simp [hj]))) (by omega)
    refine ⟨a', b', ?_, ?_, ?_, e'.trans e, f'.trans f, g'.trans g⟩
    · show ((m.putF i 4).putL l).evs.length ≤ m.evs.length + 14 * (l.length + 1); omega
    · show ((m.putF i 4).putL l).now.lists 8 = _
      rw [d', d, hn8.erase_eq_filter, List.filter_filter]
      refine List.filter_congr fun x _ => ?_
      rw [List.contains_cons, Bool.not_or, Bool.and_comm]; rfl
    · show (((m.putF i 4).putL l).now.lists 8).length + (l.length + 1) = _
      rw [d, List.length_erase_of_mem hi] at k'
      have := List.length_pos_of_mem hi
      omega
/-- What holds of an emitter between rounds. -/
structure Between (m : Em) : Prop where
  err : m.err = 0
  right : Rt m.now
  evs : m.now.game 6 = 0 → m.evs.length + 14 * (m.now.lists 8).length ≤ 1000
theorem Between.state {m : Em} (h : Between m) : m.state = m.now := by unfold Em.state; rw [if_pos h.err]
theorem dying_sub {s : St} : ∀ i ∈ dyingF s, i ∈ s.lists 8 := fun i hi => (List.mem_filter.1 hi).1
theorem dying_nodup {s : St} (h : Rt s) : (dyingF s).Nodup :=
  ((nodup_count.2 fun x => Nat.le_trans (cnt_ge (n := 11) (by decide)) (h.nd x) : (s.lists 8).Nodup)).filter _
theorem quiet_no {s : St} (h : quietF s = false) : s.game 6 = 0 := by
  simp only [quietF, Bool.or_eq_false_iff, bne_eq_false_iff_eq] at h; exact h.1
theorem result_range {s : St} : 0 ≤ resultF s ∧ resultF s ≤ 3 := by
  unfold resultF; repeat' split
  all_goals omega
theorem round_between {m : Em} (h : Between m) (hq : quietF m.state = false) : Between (roundF m) := by
  have hs := h.state
  rw [hs] at hq
  have h6 := quiet_no hq
  have hev := h.evs h6
  unfold roundF
  rw [hs]
  split
  · rename_i hr
    obtain ⟨a, b, c⟩ := gameF_at h.err (by omega) (result_range (s := m.now))
    exact ⟨a, by rw [b]; exact setGame_right h.right result_range, fun e => by
      rw [b] at e; exact absurd e hr⟩
  · have hdl : (dyingF m.now).length ≤ (m.now.lists 8).length := List.length_filter_le _ _
    obtain ⟨a, b, c, _, k, e, _⟩ := grave_all h.right h.err (dying_nodup h.right) dying_sub (by omega)
    exact ⟨a, b, fun _ => by omega⟩
theorem runs_between {fuel : Int} {m m' : Em} {n n' : Int} (r : Runs fuel m n m' n') : Between m → Between m' ∧ quietF m'.now = true := by
  induction r with
  | quiet h =>
    intro b
    have := h b.err
    rw [b.state] at this
    exact ⟨b, this⟩
  | @out m n _ hq _ =>
    intro b
    rw [b.state] at hq
    have h6 := quiet_no hq
    have hev := b.evs h6
    obtain ⟨x, y, z⟩ := gameF_at (v := 3) b.err (by omega) ⟨by decide, by decide⟩
    have h3 : (m.gameF 6 3).now.game 6 = 3 := by rw [y]; rfl
    exact ⟨⟨x, by rw [y]; exact setGame_right b.right ⟨by decide, by decide⟩, fun e => by rw [h3] at e; cases e⟩, by simp [quietF, h3]⟩
  | more _ hq _ _ ih => exact fun b => ih (round_between b hq)
theorem between_new {s : St} (hf : Few s) (hl : longF s 40 = false) (hc : checkF s = 0) : Between (newF s []) := by
  obtain ⟨_, hl⟩ := long_no hf hl
  rw [new_eq]
  exact ⟨hc, (rt_iff hf).1 hc, fun _ => by have := hl 8; simp only [List.length_nil]; omega⟩
theorem again_law (s : St) (fuel : Int) (hf : Few s) : longF s 40 = false → refCheck s = 0 → ∀ m n, Runs fuel (newF s []) 0 m n → m.err = 0 ∧ quietF m.now = true ∧ checkF m.now = 0 := fun hl hc m n r => by
  rw [refCheck_eq] at hc
  obtain ⟨b, q⟩ := runs_between r (between_new hf hl hc)
  exact ⟨b.err, q, (rt_iff b.right.few).2 b.right⟩
end Go.Proofs.YtnbmcbkokaoapaaGreatDoor
