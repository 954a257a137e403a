/- Walks: what follows of itself: rounds. -/
import Derived.Test.YtnfpbjblbfcecaaGreatDoorPut
import Derived.Test.YtnfpbjblbfcecaaGreatDoorShape4
namespace Go.Proofs.YtnfpbjblbfcecaaGreatDoor
open Go Go.AV
set_option maxRecDepth 100000
set_option maxHeartbeats 1000000
/-- What holds of an emitter that only puts and sets. -/
structure EmP (m : Em) : Prop where
  inv : EmI m
  pend : m.pend.length ≤ 4 * m.evs.length
theorem gameF_same {m : Em} {f n : Int} : Same m (m.gameF f n) := by
  unfold Em.gameF; split
  · exact .rfl'
  · split
    · exact doL_same (by simp)
    · exact set_same (by simp)
theorem gameF_p {m : Em} {f n : Int} (h : EmP m) : EmP (m.gameF f n) := by
  have := gameF_same (m := m) (f := f) (n := n)
  exact ⟨gameF_inv h.inv, by rw [this.pend]; have := this.evs; have := h.pend; omega⟩
theorem putF_p {m : Em} {i b : Int} (h : EmP m) : EmP (m.putF i b) := ⟨putF_inv h.inv, putF_evs.2.2.1 h.pend⟩
/-- Some are put to the grave. -/
def Em.putL (m : Em) (l : List Int) : Em := l.foldl (fun m i => m.putF i 4) m
theorem putL_p {m : Em} {l : List Int} (h : EmP m) : EmP (m.putL l) := by
  induction l generalizing m with
  | nil => exact h
  | cons i l ih => exact ih (m := m.putF i 4) (putF_p h)
theorem putL_evs {m : Em} {l : List Int} : m.evs.length ≤ (m.putL l).evs.length ∧ ((m.putL l).err = 0 → m.err = 0 ∧ m.evs.length + l.length ≤ (m.putL l).evs.length) := by
  induction l generalizing m with
  | nil => exact ⟨Nat.le_refl _, fun e => ⟨e, Nat.le_refl _⟩⟩
  | cons i l ih =>
    have h1 := ih (m := m.putF i 4)
    obtain ⟨a, b, _⟩ := putF_evs (m := m) (i := i) (base := 4)
    refine ⟨Nat.le_trans a h1.1, fun e => ?_⟩
    obtain ⟨c, d⟩ := h1.2 e
    obtain ⟨c', d'⟩ := b c
    refine ⟨c', ?_⟩
    show m.evs.length + (l.length + 1) ≤ ((m.putF i 4).putL l).evs.length
    omega
theorem putL_next {m : Em} {l : List Int} {k : Nat} (h : k < l.length) : m.putL (l.take (k + 1)) = (m.putL (l.take k)).putF (l.getD k 0) 4 := by
  rw [Em.putL, Em.putL, List.take_add_one, List.getElem?_eq_getElem h, getD_of h, List.foldl_append]; rfl
/-- One round. -/
def roundF (m : Em) : Em := if resultF m.state ≠ 0 then m.gameF 6 (resultF m.state) else m.putL (dyingF m.state)
theorem round_p {m : Em} (h : EmP m) : EmP (roundF m) := by
  unfold roundF; split
  · exact gameF_p h
  · exact putL_p h
theorem EmI.st {m : Em} (h : EmI m) : m.err = 0 → m.now.objs.length ≤ 1000000 ∧ ∀ z, (m.now.lists z).length ≤ 1000000 := fun e =>
  ⟨by have := (h.sz e).objs; omega, fun z => by have := (h.sz e).lists z; omega⟩
theorem EmI.st2 {m : Em} (h : EmI m) : m.state.objs.length ≤ 1000000 ∧ ∀ z, (m.state.lists z).length ≤ 1000000 := by
  unfold Em.state; split
  · rename_i e; exact h.st e
  · exact ⟨by simp [noSt], fun z => by simp [noSt]⟩
theorem EmI.box {h0 : Hp} {id : Nat} {m : Em} {h : Hp} (e : EmAt h0 id m h) : ∃ ve vp, h.box id = some (emCells m ve vp) := by
  obtain ⟨ve, vp, _, rfl⟩ := e; exact ⟨ve, vp, Hp.box_setBox _ _ _⟩
theorem gameF_more {m : Em} {n : Int} (h : m.err = 0) (hne : m.now.game 6 ≠ n) (e : (m.gameF 6 n).err = 0) : m.evs.length + 1 ≤ (m.gameF 6 n).evs.length := by
  unfold Em.gameF at *
  rw [if_neg (by simpa using h)] at e ⊢
  split at e
  · rename_i g; rw [if_pos g]; have := doL_more e; omega
  · rename_i g; rw [if_neg g]
    unfold Em.set at *
    rw [if_neg (show ¬ m.now.game (Int.toNat 6) = n from hne)] at e ⊢
    have := doL_more e; omega
theorem round_more {m : Em} (h : m.err = 0) (hq : quietF m.state = false) (e : (roundF m).err = 0) : m.evs.length + 1 ≤ (roundF m).evs.length := by
  have hs : m.state = m.now := by unfold Em.state; rw [if_pos h]
  simp only [quietF, Bool.or_eq_false_iff, bne_eq_false_iff_eq, Bool.and_eq_false_iff, beq_eq_false_iff_ne] at hq
  unfold roundF at *
  split at e
  · rename_i g; rw [if_pos g]
    refine gameF_more h ?_ e
    rw [hs] at hq; rw [hq.1]; exact Ne.symm g
  · rename_i g; rw [if_neg g]
    have := (putL_evs.2 e).2
    have hd : (dyingF m.state).length ≠ 0 := by
      rcases hq.2 with a | a
      · exact absurd a g
      · omega
    omega
theorem round_evs {m : Em} : m.evs.length ≤ (roundF m).evs.length ∧ ((roundF m).err = 0 → m.err = 0) := by
  unfold roundF; split
  · exact ⟨gameF_same.evs, gameF_same.err⟩
  · exact ⟨putL_evs.1, fun e => (putL_evs.2 e).1⟩
/-- The rounds, from one emitter and a count to another emitter and count. -/
inductive Runs (fuel : Int) : Em → Int → Em → Int → Prop
  | quiet {m n} : (m.err = 0 → quietF m.state = true) → Runs fuel m n m n
  | out {m n} : m.err = 0 → quietF m.state = false → fuel ≤ n → Runs fuel m n (m.gameF 6 3) n
  | more {m n m' n'} : m.err = 0 → quietF m.state = false → n < fuel → Runs fuel (roundF m) (n + 1) m' n' → Runs fuel m n m' n'
theorem run_yes1 {e : Int} {q : Bool} (c : (bif e == 0 then !q else false) = true) : e = 0 := by
  cases h : e == 0
  · rw [h] at c; cases c
  · simpa using h
theorem run_yes2 {e : Int} {q : Bool} (c : (bif e == 0 then !q else false) = true) : q = false := by
  cases h : e == 0
  · rw [h] at c; cases c
  · rw [h] at c; simpa using c
theorem run_no {e : Int} {q : Bool} (c : (bif e == 0 then !q else false) = false) (h : e = 0) : q = true := by
  subst h; simpa using c
def runN (m : Em) (n : Int) : Int := if m.err = 0 then n else 0

end Go.Proofs.YtnfpbjblbfcecaaGreatDoor
