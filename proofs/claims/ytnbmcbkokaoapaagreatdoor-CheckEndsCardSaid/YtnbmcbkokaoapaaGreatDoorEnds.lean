/- Plain: with a fuel that is enough rounds end by themselves. -/
import Derived.Test.YtnbmcbkokaoapaaGreatDoorAgain
import Derived.Test.YtnbmcbkokaoapaaGreatDoorLawe
namespace Go.Proofs.YtnbmcbkokaoapaaGreatDoor
open Go Go.AV
theorem lost_pl {s t : St} (h : s.pl = t.pl) (p : Int) : lostF s p = lostF t p := by
  unfold lostF; rw [h]
theorem result_pl {s t : St} (h : s.pl = t.pl) : resultF s = resultF t := by
  unfold resultF; rw [lost_pl h, lost_pl h]
/-- A round without losers: some are put to the grave, nothing else. -/
theorem round_dies {m : Em} (b : Between m) (hq : quietF m.now = false) (hr : resultF m.now = 0) :
    (roundF m).now.game = m.now.game ∧ (roundF m).now.pl = m.now.pl ∧ (roundF m).now.objs.length = m.now.objs.length ∧ ((roundF m).now.lists 8).length + 1 ≤ (m.now.lists 8).length := by
  have hev := b.evs (quiet_no hq)
  have hdl : (dyingF m.now).length ≤ (m.now.lists 8).length := List.length_filter_le _ _
  have hd : (dyingF m.now).length ≠ 0 := by
    intro e
    simp only [quietF, hr, e] at hq
    simp at hq
  unfold roundF
  rw [b.state, if_neg (by rw [hr]; decide)]
  obtain ⟨_, _, _, _, k, e, f, g⟩ := grave_all b.right b.err (dying_nodup b.right) dying_sub (by omega)
  exact ⟨e, f, g, by omega⟩
theorem runs_dies {F : Int} {m m' : Em} {n n' : Int} (r : Runs F m n m' n') : ∀ (L : Nat), Between m → m.now.game 6 = 0 → resultF m.now = 0 → n + (m.now.lists 8).length ≤ L → (L : Int) < F → m'.now.game 6 = 0 ∧ m'.now.pl = m.now.pl ∧ n' ≤ L ∧ m'.now.objs.length = m.now.objs.length := by
  induction r with
  | quiet _ => intro L b h6 hr hn hF; exact ⟨h6, rfl, by omega, rfl⟩
  | out _ _ hf => intro L b h6 hr hn hF; omega
  | @more m n m' n' _ hq _ _ ih =>
    intro L b h6 hr hn hF
    have b' := round_between b hq
    rw [b.state] at hq
    obtain ⟨e, f, g, k⟩ := round_dies b hq hr
    obtain ⟨x, y, z, w⟩ := ih L b' (by rw [e]; exact h6) (by rw [result_pl f]; exact hr) (by omega) hF
    exact ⟨x, y.trans f, z, w.trans g⟩
theorem field_le {s : St} (h : Rt s) : (s.lists 8).length ≤ s.objs.length := by
  have := flat_ge (f := s.lists) (n := 11) (z := 8) (by decide)
  have := h.tot
  unfold ids at this; omega
theorem ends_law (s : St) (hf : Few s) : longF s 40 = false → refCheck s = 0 → ∀ m n, Runs ((s.objs.length : Int) + 1) (newF s []) 0 m n → Ends s m n := fun hl hc m n r => by
  rw [refCheck_eq] at hc
  have b0 := between_new hf hl hc
  obtain ⟨b, q⟩ := runs_between r b0
  have hn : (newF s []).now = s := by rw [new_eq]
  have rt := (rt_iff hf).1 hc
  have rest : n ≤ (s.objs.length : Int) + 1 ∧ m.now.objs.length = s.objs.length ∧ (s.game 6 ≠ 0 → n = 0 ∧ m.now = s) ∧ (s.game 6 = 0 → m.now.game 6 = resultF s ∧ m.now.pl = s.pl ∧ (resultF s = 0 ∨ n = 1 ∧ m.now.lists 8 = s.lists 8)) := by
    by_cases hq : quietF s = true
    · obtain ⟨rfl, rfl⟩ := runs_quiet r b0.err (by rw [b0.state, hn]; exact hq)
      refine ⟨by omega, by rw [hn], fun _ => ⟨rfl, hn⟩, fun h6 => ?_⟩
      have hr : resultF s = 0 := by
        simp only [quietF, h6] at hq
        simp at hq; exact hq.1
      rw [hn]
      exact ⟨h6.trans hr.symm, rfl, .inl hr⟩
    · have hq : quietF s = false := by simpa using hq
      have h6 := quiet_no hq
      by_cases hr : resultF s = 0
      · obtain ⟨x, y, z, w⟩ := runs_dies r s.objs.length b0 (by rw [hn]; exact h6) (by rw [hn]; exact hr) (by rw [hn]; have := field_le rt; omega) (by omega)
        rw [hn] at y w
        exact ⟨by omega, w, fun h => absurd h6 h, fun _ => ⟨by rw [x, hr], y, .inl hr⟩⟩
      · have hround : roundF (newF s []) = (newF s []).gameF 6 (resultF s) := by
          unfold roundF; rw [b0.state, hn, if_pos hr]
        obtain ⟨x, y, z⟩ := gameF_at b0.err (by have := b0.evs (by rw [hn]; exact h6); omega) (result_range (s := s))
        rw [hn] at y
        cases r with
        | quiet h => have := h b0.err; rw [b0.state, hn, hq] at this; cases this
        | out _ _ h => omega
        | more _ hq' _ r' =>
          rw [hround] at r'
          have b1 : Between ((newF s []).gameF 6 (resultF s)) := by rw [← hround]; exact round_between b0 (by rw [b0.state, hn]; exact hq)
          have h6' : ((newF s []).gameF 6 (resultF s)).now.game 6 = resultF s := by rw [y]; rfl
          obtain ⟨rfl, rfl⟩ := runs_quiet r' b1.err (by rw [b1.state]; simp [quietF, h6', hr])
          refine ⟨by omega, by rw [y], fun h => absurd h6 h, fun _ => ⟨h6', by rw [y], .inr ⟨rfl, by rw [y]⟩⟩⟩
  exact ⟨b.err, rest.1, q, (rt_iff b.right.few).2 b.right, rest.2.1, rest.2.2.1, rest.2.2.2⟩
end Go.Proofs.YtnbmcbkokaoapaaGreatDoor
