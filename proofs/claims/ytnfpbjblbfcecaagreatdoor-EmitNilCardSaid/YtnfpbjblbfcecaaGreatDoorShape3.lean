/- Walks: a creature's shape. -/
import Derived.Test.YtnfpbjblbfcecaaGreatDoorShape2
namespace Go.Proofs.YtnfpbjblbfcecaaGreatDoor
open Go Go.AV
set_option maxRecDepth 100000
set_option maxHeartbeats 1000000
/-- A shape: power, toughness, words. -/
structure Sh where
  p : Int
  t : Int
  w : Int
def cSh (x : Sh) : List V := [.int .i64 x.p, .int .i64 x.t, .int .i64 x.w]
structure Sum where
  out : Sh
  more : Sh
def evStep (s : St) (id : Int) (a : Sum) (x : Static) : Sum :=
  if reachesF x s id = false then a
  else if x.doo.op = 24 then ⟨⟨x.doo.n, x.doo.m, a.out.w⟩, a.more⟩
  else if x.doo.op = 10 then ⟨a.out, ⟨a.more.p + x.doo.n, a.more.t + x.doo.m, a.more.w⟩⟩
  else if x.doo.op = 23 then ⟨⟨a.out.p, a.out.t, bitop .or .i64 a.out.w x.doo.n⟩, a.more⟩
  else if x.doo.op = 25 then ⟨⟨a.out.p, a.out.t, bitop .andNot .i64 a.out.w x.doo.n⟩, a.more⟩
  else a
def ev0 (s : St) (id : Int) : Sum :=
  let c := kindF s id
  let o := s.objs.getD id.toNat noObj
  ⟨⟨c.power, c.tough, c.says⟩, ⟨o 7 + o 8, o 7 + o 9, 0⟩⟩
def evSum (s : St) (id : Int) (l : List Static) : Sum := l.foldl (evStep s id) (ev0 s id)
def evalF (s : St) (id : Int) : Sh :=
  let a := evSum s id (staticsF s)
  ⟨a.out.p + a.more.p, a.out.t + a.more.t, bitop .or .i64 a.out.w (s.objs.getD id.toNat noObj 10)⟩
def evUp (s : St) (id : Int) (k : Nat) : Sum := evSum s id ((staticsF s).take k)
def noStat : Static := ⟨0, 0, 0, noEff0⟩
theorem evUp_zero {s : St} {id : Int} : evUp s id 0 = ev0 s id := by simp [evUp, evSum]
theorem evUp_succ {s : St} {id : Int} {k : Nat} (h : k < (staticsF s).length) : evUp s id (k + 1) = evStep s id (evUp s id k) ((staticsF s).getD k noStat) := by
  rw [evUp, List.take_add_one, List.getElem?_eq_getElem h, evSum, Option.toList_some, List.foldl_append, getD_of' h]; rfl
theorem evUp_all {s : St} {id : Int} : evUp s id (staticsF s).length = evSum s id (staticsF s) := by rw [evUp, List.take_length]
def small2 (e : Eff0) : Bool := decide (-1000 ≤ e.n) && decide (e.n ≤ 1000) && decide (-1000 ≤ e.m) && decide (e.m ≤ 1000)
theorem cardF_small : ∀ k : Fin 120, ((cardF (k.val : Int)).abs.all fun a => a.doo.subs.all small2) = true ∧ (-1000 ≤ (cardF (k.val : Int)).power ∧ (cardF (k.val : Int)).power ≤ 1000) ∧ (-1000 ≤ (cardF (k.val : Int)).tough ∧ (cardF (k.val : Int)).tough ≤ 1000) := by decide +kernel
def sm (x y : Int) : Prop := -1000 ≤ x ∧ x ≤ 1000 ∧ -1000 ≤ y ∧ y ≤ 1000
theorem small2_iff {e : Eff0} (h : small2 e = true) : sm e.n e.m := by
  simp only [small2, Bool.and_eq_true, decide_eq_true_eq] at h; exact ⟨h.1.1.1, h.1.1.2, h.1.2, h.2⟩
theorem cardE_small (n : Int) : (∀ a ∈ (cardE n).1.abs, ∀ e ∈ a.doo.subs, sm e.n e.m) ∧ sm (cardE n).1.power (cardE n).1.tough := by
  unfold cardE
  split
  · exact ⟨by simp [noCard], by simp only [noCard, sm]; decide⟩
  · rename_i h
    have := cardF_small ⟨n.toNat, by omega⟩
    have e : ((n.toNat : Nat) : Int) = n := by omega
    simp only [e, List.all_eq_true] at this
    exact ⟨fun a ha x hx => small2_iff (this.1 a ha x hx), this.2.1.1, this.2.1.2, this.2.2.1, this.2.2.2⟩
theorem statics_small {s : St} : ∀ x ∈ staticsF s, sm x.doo.n x.doo.m := by
  intro x hx
  simp only [staticsF, List.mem_flatMap, staticsOf, List.mem_map] at hx
  obtain ⟨id, _, j, hj, rfl⟩ := hx
  obtain ⟨h0, h1, _⟩ := uses_in hj
  have hlt : j.toNat < (kindF s id).abs.length := by omega
  have hpos := static_pos hj
  refine (cardE_small (s.objs.getD id.toNat noObj 0)).1 ((kindF s id).abs.getD j.toNat noAb) ?_ _ ?_
  · rw [getD_of' hlt]; exact List.getElem_mem hlt
  · simp only [staticOf]; rw [getD_of' hpos]; exact List.getElem_mem hpos
def bd (c : Int) (a : Sum) : Prop := sm a.out.p a.out.t ∧ (-c ≤ a.more.p ∧ a.more.p ≤ c ∧ -c ≤ a.more.t ∧ a.more.t ≤ c)
theorem evStep_bd {s : St} {id : Int} {a : Sum} {x : Static} {c : Int} (hc : 0 ≤ c) (h : bd c a) (hx : sm x.doo.n x.doo.m) : bd (c + 1000) (evStep s id a x) := by
  obtain ⟨⟨h1, h2, h3, h4⟩, h5, h6, h7, h8⟩ := h
  obtain ⟨x1, x2, x3, x4⟩ := hx
  unfold evStep
  repeat' split
  all_goals refine ⟨⟨?_, ?_, ?_, ?_⟩, ?_, ?_, ?_, ?_⟩ <;> (try dsimp only) <;> omega
def obd (o : Obj) : Prop := (0 ≤ o 7 ∧ o 7 ≤ 1073741824) ∧ (-1073741824 ≤ o 8 ∧ o 8 ≤ 1073741824) ∧ (-1073741824 ≤ o 9 ∧ o 9 ≤ 1073741824)
theorem ev0_bd {s : St} {id : Int} (h : obd (s.objs.getD id.toNat noObj)) : bd 4294967296 (ev0 s id) := by
  obtain ⟨⟨a, b⟩, ⟨c, d⟩, e, f⟩ := h
  refine ⟨(cardE_small (s.objs.getD id.toNat noObj 0)).2, ?_, ?_, ?_, ?_⟩ <;> simp only [ev0] <;> omega
theorem getD_mem' {α : Type} {z : α} {l : List α} {k : Nat} (h : k < l.length) : l.getD k z ∈ l := by
  rw [getD_of' h]; exact List.getElem_mem h
theorem evUp_bd {s : St} {id : Int} (h : obd (s.objs.getD id.toNat noObj)) (k : Nat) (hk : k ≤ (staticsF s).length) : bd (4294967296 + 1000 * k) (evUp s id k) := by
  induction k with
  | zero => rw [evUp_zero]; exact ev0_bd h
  | succ k ih =>
    rw [evUp_succ hk]
    have := evStep_bd (s := s) (id := id) (x := (staticsF s).getD k noStat) (by omega) (ih (by omega)) (statics_small _ (getD_mem' hk))
    have e : (4294967296 + 1000 * ((k + 1 : Nat) : Int)) = 4294967296 + 1000 * (k : Int) + 1000 := by omega
    rw [e]; exact this
theorem static_elem {l : List Static} {i : Nat} (h : i < l.length) : ((cStatics l).drop (Int.toNat (i : Int) * 8)).take 8 = cStatic (l.getD i noStat) := flat_at (f := cStatic) (n := 8) (fun _ => rfl) noStat (i := i) h

theorem box_under {h : Hp} {i j : Nat} {c d : List V} (n : i ≠ j) (e : h.box j = some c) : (h.setBox i d).box j = some c := by rw [Hp.box_setBox_ne _ _ (Ne.symm n)]; exact e
theorem none_of {h : Hp} {i j : Nat} {c : List V} (e : (h.setBox i c).box j = none) : h.box j = none := by
  by_cases n : j = i
  · subst n; rw [Hp.box_setBox] at e; cases e
  · rwa [Hp.box_setBox_ne _ _ n] at e
theorem swap_mem {h : Hp} {i j : Nat} {a b c : List V} (n : i ≠ j) : ((h.setBox i a).setBox j b).setBox i c = (h.setBox i c).setBox j b := by
  rw [Hp.setBox_comm _ _ _ (Ne.symm n), Hp.setBox_setBox]
theorem fresh_ne {h : Hp} {i j : Nat} {c : List V} (f : (h.setBox i c).fresh j) : i ≠ j := Hp.ne_of_box (Hp.box_setBox _ _ _) f.1
theorem fresh_pair {h : Hp} {i j : Nat} {c d : List V} (fi : h.fresh i) (fj : (h.setBox i c).fresh j) : h.fresh j ∧ (h.setBox j d).fresh i := by
  have hne := fresh_ne fj
  exact ⟨⟨by have := fj.1; rwa [Hp.box_setBox_ne _ _ hne.symm] at this, fj.2⟩, fresh_setBox fi hne⟩
theorem a_storeWA' {P : Program} {G : Nat → Option (List V)} {h : Hp} {o : Oper} {ρ : Operand → V} {t : TypeId} {x y : Operand} (ho : o.op = .store t x y) {n : Nat} (hs : ∀ w, (sizeOf t).run P w = .ok n w) {id : Nat} (hx : ρ x = .ptr id 0) {h0 : Hp} {cs : List V} (hh : h = h0.setBox id cs)
    {ds : List V} (hv : ρ y = .agg ds) (hn : ds.length = n) (hc : cs.length = n) {K : V → Hp → Prop} (k : K .junk (h0.setBox id ds)) : AStep P G o ρ h K := a_storeWA ho hs hx hh hv hn hc k
/-- A store into the variable beneath the last one. -/
theorem a_storeU {P : Program} {G : Nat → Option (List V)} {h : Hp} {o : Oper} {ρ : Operand → V} {t : TypeId} {x y : Operand} {id id2 : Nat} (ho : o.op = .store t x y) {n : Nat} (hs : ∀ w, (sizeOf t).run P w = .ok n w) (hx : ρ x = .ptr id 0) {h0 : Hp} {cs c2 : List V} (hf : (h0.setBox id cs).fresh id2) (hh : h = (h0.setBox id cs).setBox id2 c2)
    {ds : List V} (hv : ρ y = .agg ds) (hn : ds.length = n) (hc : cs.length = n) {K : V → Hp → Prop} (k : K .junk ((h0.setBox id ds).setBox id2 c2)) : AStep P G o ρ h K := by
  have hne := fresh_ne hf
  refine a_storeWA (h0 := h0.setBox id2 c2) ho hs hx (by rw [hh, Hp.setBox_comm _ _ _ hne]) hv hn hc ?_
  rw [← Hp.setBox_comm _ _ _ hne]; exact k

end Go.Proofs.YtnfpbjblbfcecaaGreatDoor
