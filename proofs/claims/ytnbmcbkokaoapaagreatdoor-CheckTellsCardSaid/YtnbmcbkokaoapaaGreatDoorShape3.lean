/- Walks: a creature's shape. -/
import Derived.Test.YtnbmcbkokaoapaaGreatDoorShape2
namespace Go.Proofs.YtnbmcbkokaoapaaGreatDoor
open Go Go.AV
set_option maxRecDepth 100000
set_option maxHeartbeats 1000000
/-- A shape: power, toughness, words. -/
structure Sh where
  p : Int
  t : Int
  w : Int
def cSh (x : Sh) : List V := [.int .i64 x.p, .int .i64 x.t, .int .i64 x.w]
structure Sum where
  out : Sh
  more : Sh
def evStep (s : St) (id : Int) (a : Sum) (x : Static) : Sum :=
  if reachesF x s id = false then a
  else if x.doo.op = 24 then ⟨⟨x.doo.n, x.doo.m, a.out.w⟩, a.more⟩
  else if x.doo.op = 10 then ⟨a.out, ⟨a.more.p + x.doo.n, a.more.t + x.doo.m, a.more.w⟩⟩
  else if x.doo.op = 23 then ⟨⟨a.out.p, a.out.t, bitop .or .i64 a.out.w x.doo.n⟩, a.more⟩
  else if x.doo.op = 25 then ⟨⟨a.out.p, a.out.t, bitop .andNot .i64 a.out.w x.doo.n⟩, a.more⟩
  else a
def ev0 (s : St) (id : Int) : Sum :=
  let c := kindF s id
  let o := s.objs.getD id.toNat noObj
  ⟨⟨c.power, c.tough, c.says⟩, ⟨o 7 + o 8, o 7 + o 9, 0⟩⟩
def evSum (s : St) (id : Int) (l : List Static) : Sum := l.foldl (evStep s id) (ev0 s id)
def evalF (s : St) (id : Int) : Sh :=
  let a := evSum s id (staticsF s)
  ⟨a.out.p + a.more.p, a.out.t + a.more.t, bitop .or .i64 a.out.w (s.objs.getD id.toNat noObj 10)⟩
def evUp (s : St) (id : Int) (k : Nat) : Sum := evSum s id ((staticsF s).take k)
def noStat : Static := ⟨0, 0, 0, noEff0⟩
theorem evUp_zero {s : St} {id : Int} : evUp s id 0 = ev0 s id := by simp [evUp, evSum]
theorem evUp_succ {s : St} {id : Int} {k : Nat} (h : k < (staticsF s).length) : evUp s id (k + 1) = evStep s id (evUp s id k) ((staticsF s).getD k noStat) := by
  rw [evUp, List.take_add_one, List.getElem?_eq_getElem h, evSum, Option.toList_some, List.foldl_append, getD_of' h]; rfl
theorem evUp_all {s : St} {id : Int} : evUp s id (staticsF s).length = evSum s id (staticsF s) := by rw [evUp, List.take_length]
def small2 (e : Eff0) : Bool := decide (-1000 ≤ e.n) && decide (e.n ≤ 1000) && decide (-1000 ≤ e.m) && decide (e.m ≤ 1000)
theorem cardF_small : ∀ k : Fin 120, ((cardF (k.val : Int)).abs.all fun a => a.doo.subs.all small2) = true ∧ (-1000 ≤ (cardF (k.val : Int)).power ∧ (cardF (k.val : Int)).power ≤ 1000) ∧ (-1000 ≤ (cardF (k.val : Int)).tough ∧ (cardF (k.val : Int)).tough ≤ 1000) := by decide +kernel
def sm (x y : Int) : Prop := -1000 ≤ x ∧ x ≤ 1000 ∧ -1000 ≤ y ∧ y ≤ 1000
theorem small2_iff {e : Eff0} (h : small2 e = true) : sm e.n e.m := by
  simp only [small2, Bool.and_eq_true, decide_eq_true_eq] at h; exact ⟨h.1.1.1, h.1.1.2, h.1.2, h.2⟩
theorem cardE_small (n : Int) : (∀ a ∈ (cardE n).1.abs, ∀ e ∈ a.doo.subs, sm e.n e.m) ∧ sm (cardE n).1.power (cardE n).1.tough := by
  unfold cardE
  split
  · exact ⟨by simp [noCard], by simp only [noCard, sm]; decide⟩
  · rename_i h
    have := cardF_small ⟨n.toNat, by omega⟩
    have e : ((n.toNat : Nat) : Int) = n := by omega
    simp only [e, List.all_eq_true] at this
    exact ⟨fun a ha x hx => small2_iff (this.1 a ha x hx), this.2.1.1, this.2.1.2, this.2.2.1, this.2.2.2⟩
theorem statics_small {s : St} : ∀ x ∈ staticsF s, sm x.doo.n x.doo.m := by
  intro x hx
  simp only [staticsF, List.mem_flatMap, staticsOf, List.mem_map] at hx
  obtain ⟨id, _, j, hj, rfl⟩ := hx
  obtain ⟨h0, h1, _⟩ := uses_in hj
  have hlt : j.toNat < (kindF s id).abs.length := by omega
  have hpos := static_pos hj
  refine (cardE_small (s.objs.getD id.toNat noObj 0)).1 ((kindF s id).abs.getD j.toNat noAb) ?_ _ ?_
  · rw [getD_of' hlt]; exact List.getElem_mem hlt
  · simp only [staticOf]; rw [getD_of' hpos]; exact List.getElem_mem hpos
def bd (c : Int) (a : Sum) : Prop := sm a.out.p a.out.t ∧ (-c ≤ a.more.p ∧ a.more.p ≤ c ∧ -c ≤ a.more.t ∧ a.more.t ≤ c)
theorem evStep_bd {s : St} {id : Int} {a : Sum} {x : Static} {c : Int} (hc : 0 ≤ c) (h : bd c a) (hx : sm x.doo.n x.doo.m) : bd (c + 1000) (evStep s id a x) := by
  obtain ⟨⟨h1, h2, h3, h4⟩, h5, h6, h7, h8⟩ := h
  obtain ⟨x1, x2, x3, x4⟩ := hx
  unfold evStep
  repeat' split
  all_goals refine ⟨⟨?_, ?_, ?_, ?_⟩, ?_, ?_, ?_, ?_⟩ <;> (try dsimp only) <;> omega
def obd (o : Obj) : Prop := (0 ≤ o 7 ∧ o 7 ≤ 1073741824) ∧ (-1073741824 ≤ o 8 ∧ o 8 ≤ 1073741824) ∧ (-1073741824 ≤ o 9 ∧ o 9 ≤ 1073741824)
theorem ev0_bd {s : St} {id : Int} (h : obd (s.objs.getD id.toNat noObj)) : bd 4294967296 (ev0 s id) := by
  obtain ⟨⟨a, b⟩, ⟨c, d⟩, e, f⟩ := h
  refine ⟨(cardE_small (s.objs.getD id.toNat noObj 0)).2, ?_, ?_, ?_, ?_⟩ <;> simp only [ev0] <;> omega
theorem getD_mem' {α : Type} {z : α} {l : List α} {k : Nat} (h : k < l.length) : l.getD k z ∈ l := by
  rw [getD_of' h]; exact List.getElem_mem h
theorem evUp_bd {s : St} {id : Int} (h : obd (s.objs.getD id.toNat noObj)) (k : Nat) (hk : k ≤ (staticsF s).length) : bd (4294967296 + 1000 * k) (evUp s id k) := by
  induction k with
  | zero => rw [evUp_zero]; exact ev0_bd h
  | succ k ih =>
    rw [evUp_succ hk]
    have := evStep_bd (s := s) (id := id) (x := (staticsF s).getD k noStat) (by omega) (ih (by omega)) (statics_small _ (getD_mem' hk))
    have e : (4294967296 + 1000 * ((k + 1 : Nat) : Int)) = 4294967296 + 1000 * (k : Int) + 1000 := by omega
    rw [e]; exact this
theorem static_elem {l : List Static} {i : Nat} (h : i < l.length) : ((cStatics l).drop (Int.toNat (i : Int) * 8)).take 8 = cStatic (l.getD i noStat) := flat_at (f := cStatic) (n := 8) (fun _ => rfl) noStat (i := i) h

theorem box_under {h : Hp} {i j : Nat} {c d : List V} (n : i ≠ j) (e : h.box j = some c) : (h.setBox i d).box j = some c := by rw [Hp.box_setBox_ne _ _ (Ne.symm n)]; exact e
theorem none_of {h : Hp} {i j : Nat} {c : List V} (e : (h.setBox i c).box j = none) : h.box j = none := by
  by_cases n : j = i
  · subst n; rw [Hp.box_setBox] at e; cases e
  · rwa [Hp.box_setBox_ne _ _ n] at e
theorem swap_mem {h : Hp} {i j : Nat} {a b c : List V} (n : i ≠ j) : ((h.setBox i a).setBox j b).setBox i c = (h.setBox i c).setBox j b := by
  rw [Hp.setBox_comm _ _ _ (Ne.symm n), Hp.setBox_setBox]
theorem fresh_ne {h : Hp} {i j : Nat} {c : List V} (f : (h.setBox i c).fresh j) : i ≠ j := Hp.ne_of_box (Hp.box_setBox _ _ _) f.1
theorem fresh_pair {h : Hp} {i j : Nat} {c d : List V} (fi : h.fresh i) (fj : (h.setBox i c).fresh j) : h.fresh j ∧ (h.setBox j d).fresh i := by
  have hne := fresh_ne fj
  exact ⟨⟨by have := fj.1; rwa [Hp.box_setBox_ne _ _ hne.symm] at this, fj.2⟩, fresh_setBox fi hne⟩
theorem a_storeWA' {P : Program} {G : Nat → Option (List V)} {h : Hp} {o : Oper} {ρ : Operand → V} {t : TypeId} {x y : Operand} (ho : o.op = .store t x y) {n : Nat} (hs : ∀ w, (sizeOf t).run P w = .ok n w) {id : Nat} (hx : ρ x = .ptr id 0) {h0 : Hp} {cs : List V} (hh : h = h0.setBox id cs)
    {ds : List V} (hv : ρ y = .agg ds) (hn : ds.length = n) (hc : cs.length = n) {K : V → Hp → Prop} (k : K .junk (h0.setBox id ds)) : AStep P G o ρ h K := a_storeWA ho hs hx hh hv hn hc k
/-- A store into the variable beneath the last one. -/
theorem a_storeU {P : Program} {G : Nat → Option (List V)} {h : Hp} {o : Oper} {ρ : Operand → V} {t : TypeId} {x y : Operand} {id id2 : Nat} (ho : o.op = .store t x y) {n : Nat} (hs : ∀ w, (sizeOf t).run P w = .ok n w) (hx : ρ x = .ptr id 0) {h0 : Hp} {cs c2 : List V} (hf : (h0.setBox id cs).fresh id2) (hh : h = (h0.setBox id cs).setBox id2 c2)
    {ds : List V} (hv : ρ y = .agg ds) (hn : ds.length = n) (hc : cs.length = n) {K : V → Hp → Prop} (k : K .junk ((h0.setBox id ds).setBox id2 c2)) : AStep P G o ρ h K := by
  have hne := fresh_ne hf
  refine a_storeWA (h0 := h0.setBox id2 c2) ho hs hx (by rw [hh, Hp.setBox_comm _ _ _ hne]) hv hn hc ?_
  rw [← Hp.setBox_comm _ _ _ hne]; exact k

theorem eval_calls (s : St) (i : Int) (hi : 0 ≤ i ∧ i < s.objs.length) (hz : ∀ id ∈ s.lists 8, 0 ≤ id ∧ id < s.objs.length) (hl : (s.lists 8).length ≤ 1000000) (hob : obd (s.objs.getD i.toNat noObj)) (h : Hp) : ACalls Tryz.prog G 94 [eState s, .int .i64 i] h fun r h' => r = .agg (cSh (evalF s i)) ∧ h' = h := by
  obtain ⟨⟨o7, o7'⟩, ⟨o8, o8'⟩, o9, o9'⟩ := id hob
  have hsl : (staticsF s).length ≤ 10000000 := by rw [← stUp_all]; exact stUp_len hl
  refine ACalls.enter Tryz.func94 rfl Tryz.ntmps94 Tryz.results94 rfl ?_
  refine AW.seq ?_
  refine AW.region ?_
  refine AOps.q rfl rfl rfl (q_boxa rfl (rfl : _ = V.agg _)) ?_
  refine AOps.s rfl rfl rfl (a_alloc rfl Tryz.zeroValue104 rfl (fun id4 hid4 => ?_))
  refine AOps.nil ?_
  refine AW.cut (fun T h1 => ∃ id5 id6, T = put (put (put (put (put T0 1 (V.int .i64 i)) 2 (V.iptr (cState s))) 4 (V.ptr id4 0)) 5 (V.ptr id5 0)) 6 (V.ptr id6 0) ∧ (h.setBox id4 [.int .i64 0, .int .i64 0, .int .i64 0]).fresh id5 ∧ ((h.setBox id4 [.int .i64 0, .int .i64 0, .int .i64 0]).setBox id5 (cCard (kindF s i))).fresh id6 ∧ h1 = ((h.setBox id4 [.int .i64 0, .int .i64 0, .int .i64 0]).setBox id5 (cCard (kindF s i))).setBox id6 (cObj (s.objs.getD i.toNat noObj))) ?_ ?_
  · skip
    refine AW.draw2 [10, 11] [3, 4, 5, 6, 7] [(0, true), (1, true), (2, true), (3, true), (4, true), (5, true), (6, true), (7, true)] 4 mixed (by kernel_rfl) rfl (by kernel_rfl) ?_
    refine AOrd.q rfl rfl rfl rfl (q_load_iW rfl Tryz.isAgg29 Tryz.sizeOf29 rfl (by rfl)) ?_
    refine AOrd.q rfl rfl rfl rfl (q_mv rfl (rfl : _ = V.int _ _)) ?_
    refine AOrd.q rfl rfl rfl rfl (QOp.call rfl (by exact Tryz.call121) fun h' hl' => by exact kind_calls s i hi h') ?_
    refine AOrd.p rfl rfl rfl (fun _ => q_fa_i rfl Tryz.underlying29 rfl (by exact Tryz.sizeOf22) (by decide) rfl (rfl : _ = List.drop 0 _)) ?_
    refine AOrd.p rfl rfl rfl (fun _ => q_load_i1 rfl Tryz.isAgg22 rfl rfl) ?_
    refine AOrd.p rfl rfl rfl (fun _ => q_mv rfl (rfl : _ = V.int _ _)) ?_
    refine AOrd.p rfl rfl rfl (fun _ => q_ia_s rfl Tryz.underlying22 Tryz.sizeOf49 rfl rfl hi.1 hi.2 (cObjs_elem' hi.1 hi.2)) ?_
    refine AOrd.p rfl rfl rfl (fun _ => q_load_iW rfl Tryz.isAgg49 Tryz.sizeOf49 rfl (by rfl)) ?_
    refine AOrd.nil ?_
    refine AAny.two 8 9 (by kernel_rfl) (aOp.new rfl rfl rfl (a_alloc rfl Tryz.zeroValue92 rfl (fun id5 hid5 => ⟨?_, HLe.setBox hid5.1⟩))) (aOp.new rfl rfl rfl (a_alloc rfl Tryz.zeroValue49 rfl (fun id6 hid6 => ⟨?_, HLe.setBox hid6.1⟩)))
    · skip
      refine AAny.one 9 (by kernel_rfl) (aOp.new rfl rfl rfl (a_alloc rfl Tryz.zeroValue49 rfl (fun id6 hid6 => ⟨?_, HLe.setBox hid6.1⟩)))
      refine AAny.one 10 (by kernel_rfl) (aOp.st rfl rfl rfl rfl (a_storeU (id := id5) (id2 := id6) rfl Tryz.sizeOf92 rfl hid6 rfl (rfl : _ = V.agg _) rfl rfl ?_))
      refine AAny.one 11 (by kernel_rfl) (aOp.st rfl rfl rfl rfl (a_storeWA' rfl Tryz.sizeOf49 rfl (rfl) (rfl : _ = V.agg _) rfl rfl ?_))
      refine AAny.fin (by kernel_rfl) ?_
      exact Wk.mk (TLe.put (d := 6) (VLe.refl _) (TLe.put (d := 5) (VLe.refl _) (TLe.put (d := 4) (VLe.refl _) (TLe.put (d := 2) (VLe.refl _) (TLe.put (d := 1) (VLe.refl _) (TLe.zero _)))))) (HLe.refl _) ⟨id5, id6, rfl, hid5, Hp.fresh_swap hid6, rfl⟩
    · skip
      refine AAny.one 8 (by kernel_rfl) (aOp.new rfl rfl rfl (a_alloc rfl Tryz.zeroValue92 rfl (fun id5 hid5 => ⟨?_, HLe.setBox hid5.1⟩)))
      refine AAny.one 10 (by kernel_rfl) (aOp.st rfl rfl rfl rfl (a_storeWA' rfl Tryz.sizeOf92 rfl (rfl) (rfl : _ = V.agg _) rfl rfl ?_))
      refine AAny.one 11 (by kernel_rfl) (aOp.st rfl rfl rfl rfl (a_storeU (id := id6) (id2 := id5) rfl Tryz.sizeOf49 rfl (Hp.fresh_swap hid5) rfl (rfl : _ = V.agg _) rfl rfl ?_))
      refine AAny.fin (by kernel_rfl) ?_
      exact Wk.mk (TLe.put (d := 6) (VLe.refl _) (TLe.put (d := 5) (VLe.refl _) (TLe.put (d := 4) (VLe.refl _) (TLe.put (d := 2) (VLe.refl _) (TLe.put (d := 1) (VLe.refl _) (TLe.zero _)))))) (HLe.refl _) ⟨id5, id6, rfl, (fresh_pair (d := []) hid6 hid5).1, (fresh_pair hid6 hid5).2, Hp.setBox_comm _ _ _ (fresh_ne hid5)⟩
  · rintro T h1 ⟨id5, id6, rfl, hid5, hid6, rfl⟩
    refine AW.done 6 rfl hid6 ?_
    refine AW.done 5 rfl hid5 ?_
    refine AW.seq ?_
    refine AW.region ?_
    refine AOps.q rfl rfl rfl (q_fa_i rfl Tryz.underlying92 rfl (by exact Tryz.sizeOf3) (by decide) rfl (rfl : _ = List.drop 9 _)) ?_
    refine AOps.q rfl rfl rfl (q_load_i1 rfl Tryz.isAgg3 rfl rfl) ?_
    refine AOps.q rfl rfl rfl (q_fa_i rfl Tryz.underlying92 rfl (by exact Tryz.sizeOf3) (by decide) rfl (rfl : _ = List.drop 10 _)) ?_
    refine AOps.q rfl rfl rfl (q_load_i1 rfl Tryz.isAgg3 rfl rfl) ?_
    refine AOps.q rfl rfl rfl (q_fa_i rfl Tryz.underlying92 rfl (by exact Tryz.sizeOf3) (by decide) rfl (rfl : _ = List.drop 11 _)) ?_
    refine AOps.q rfl rfl rfl (q_load_i1 rfl Tryz.isAgg3 rfl rfl) ?_
    refine AOps.q rfl rfl rfl (q_buildS rfl Tryz.zeroValue104 Tryz.underlying104 (pl104 Tryz.underlying104) rfl rfl) ?_
    refine AOps.s rfl rfl rfl (a_alloc rfl Tryz.zeroValue104 rfl (fun id7 hid7 => ?_))
    refine AOps.s0 rfl rfl (a_storeWA rfl Tryz.sizeOf104 rfl rfl (rfl : _ = V.agg _) rfl rfl ?_)
    refine AOps.nil ?_
    refine AW.seq ?_
    refine AW.region ?_
    refine AOps.q rfl rfl rfl (q_ia_ai rfl Tryz.underlying49 Tryz.sizeOf3 rfl rfl (by decide) (by decide) rfl) ?_
    refine AOps.q rfl rfl rfl (q_load_i1 rfl Tryz.isAgg3 rfl rfl) ?_
    refine AOps.q rfl rfl rfl (q_ia_ai rfl Tryz.underlying49 Tryz.sizeOf3 rfl rfl (by decide) (by decide) rfl) ?_
    refine AOps.q rfl rfl rfl (q_load_i1 rfl Tryz.isAgg3 rfl rfl) ?_
    refine AOps.q rfl rfl rfl (q_add' rfl rfl rfl (by omega)) ?_
    refine AOps.q rfl rfl rfl (q_ia_ai rfl Tryz.underlying49 Tryz.sizeOf3 rfl rfl (by decide) (by decide) rfl) ?_
    refine AOps.q rfl rfl rfl (q_load_i1 rfl Tryz.isAgg3 rfl rfl) ?_
    refine AOps.q rfl rfl rfl (q_ia_ai rfl Tryz.underlying49 Tryz.sizeOf3 rfl rfl (by decide) (by decide) rfl) ?_
    refine AOps.q rfl rfl rfl (q_load_i1 rfl Tryz.isAgg3 rfl rfl) ?_
    refine AOps.q rfl rfl rfl (q_add' rfl rfl rfl (by omega)) ?_
    refine AOps.q rfl rfl rfl (q_buildS rfl Tryz.zeroValue104 Tryz.underlying104 (pl104 Tryz.underlying104) rfl rfl) ?_
    refine AOps.s rfl rfl rfl (a_alloc rfl Tryz.zeroValue104 rfl (fun id8 hid8 => ?_))
    refine AOps.s0 rfl rfl (a_storeWA rfl Tryz.sizeOf104 rfl rfl (rfl : _ = V.agg _) rfl rfl ?_)
    refine AOps.nil ?_
    refine AW.seq ?_
    refine AW.seq ?_
    refine AW.region ?_
    refine AOps.q rfl rfl rfl (q_load_iW rfl Tryz.isAgg29 Tryz.sizeOf29 rfl (by rfl)) ?_
    refine AOps.q rfl rfl rfl (QOp.call rfl (by exact Tryz.call122) fun h' hl' => by exact statics_calls s hz hl h') ?_
    refine AOps.q rfl rfl rfl (q_len rfl Tryz.underlying159 rfl) ?_
    refine AOps.q rfl rfl rfl (q_mv rfl (rfl : _ = V.int _ _)) ?_
    refine AOps.nil ?_
    refine AW.block ?_
    refine AW.loop (fun n T hh => ∃ (k : Nat) , k ≤ (staticsF s).length ∧ n = (staticsF s).length - k ∧ T = put (put (put (put (put (put (put (put (put (T0) 40 (V.int .i64 (k : Nat))) 39 (V.int .i64 (staticsF s).length)) 38 (V.sl .imm 8 (staticsF s).length (cStatics (staticsF s)))) 8 (V.ptr id8 0)) 7 (V.ptr id7 0)) 6 (V.iptr (cObj (s.objs.getD i.toNat noObj)))) 4 (V.ptr id4 0)) 2 (V.iptr (cState s))) 1 (V.int .i64 i) ∧ hh = ((h.setBox id4 [V.int .i64 0, V.int .i64 0, V.int .i64 0]).setBox id7 (cSh (evUp s i k).out)).setBox id8 (cSh (evUp s i k).more)) ((staticsF s).length) ?_ ?_
    · skip
      refine Wk.mk (TLe.put (d := 1) (VLe.refl _) (TLe.put (d := 2) (VLe.refl _) (TLe.put (d := 4) (VLe.refl _) (TLe.put (d := 6) (VLe.refl _) (TLe.put (d := 7) (VLe.refl _) (TLe.put (d := 8) (VLe.refl _) (TLe.put (d := 38) (VLe.refl _) (TLe.put (d := 39) (VLe.refl _) (TLe.put (d := 40) (by exact VLe.of_eq (congrArg (V.int .i64) (by first | rfl | omega))) (TLe.zero _)))))))))) (HLe.refl _) ⟨0, Nat.zero_le _, rfl, rfl, by rw [evUp_zero]; rfl⟩
    · skip
      rintro n T h' ⟨k, hk, rfl, rfl, rfl⟩
      refine AW.seq ?_
      refine AW.region ?_
      refine AOps.q rfl rfl rfl (q_lt rfl rfl rfl) ?_
      refine AOps.nil ?_
      refine AW.seq ?_
      refine AW.cond rfl (fun c0 => ?_) (fun c0 => ?_)
      · have hltk : k < (staticsF s).length := by have := of_decide_eq_true c0; omega
        have hx := statics_small _ (getD_mem' (z := noStat) hltk)
        obtain ⟨x1, x2, x3, x4⟩ := hx
        obtain ⟨⟨q1, q2, q3, q4⟩, q5, q6, q7, q8⟩ := evUp_bd hob k hk
        have n78 := fresh_ne hid8
        refine AW.skip ?_
        refine AW.seq ?_
        refine AW.block ?_
        refine AW.seq ?_
        refine AW.region ?_
        refine AOps.q rfl rfl rfl (q_ia_s rfl Tryz.underlying159 Tryz.sizeOf162 rfl rfl (by omega) (by omega) (static_elem hltk)) ?_
        refine AOps.q rfl rfl rfl (q_load_iW rfl Tryz.isAgg162 Tryz.sizeOf162 rfl (by rfl)) ?_
        refine AOps.s rfl rfl rfl (a_alloc rfl Tryz.zeroValue162 rfl (fun id10 hid10 => ?_))
        refine AOps.s0 rfl rfl (a_storeWA rfl Tryz.sizeOf162 rfl rfl (rfl : _ = V.agg _) rfl rfl ?_)
        refine AOps.done 10 rfl hid10 ?_
        refine AOps.nil ?_
        refine AW.seq ?_
        refine AW.seq ?_
        refine AW.region ?_
        refine AOps.q rfl rfl rfl (q_load_iW rfl Tryz.isAgg162 Tryz.sizeOf162 rfl (by rfl)) ?_
        refine AOps.q rfl rfl rfl (q_load_iW rfl Tryz.isAgg29 Tryz.sizeOf29 rfl (by rfl)) ?_
        refine AOps.q rfl rfl rfl (q_mv rfl (rfl : _ = V.int _ _)) ?_
        refine AOps.q rfl rfl rfl (QOp.call rfl (by exact Tryz.call123) fun h' hl' => by exact reaches_calls _ _ _ (by omega) h') ?_
        refine AOps.q rfl rfl rfl (q_not rfl rfl) ?_
        refine AOps.nil ?_
        refine AW.cond rfl (fun c1 => ?_) (fun c1 => ?_)
        · have e1 : reachesF ((staticsF s).getD k noStat) s i = false := by simpa using c1
          have he : evStep s i (evUp s i k) ((staticsF s).getD k noStat) = (evUp s i k) := by simp [-List.getD_eq_getElem?_getD, evStep, e1]
          refine AW.exit ?_
          refine AW.region ?_
          refine AOps.q rfl rfl rfl (q_add' rfl rfl rfl (by omega)) ?_
          refine AOps.q rfl rfl rfl (q_mv rfl (rfl : _ = V.int _ _)) ?_
          refine AOps.nil ?_
          refine Wk.mk (TLe.put (d := 1) (VLe.refl _) (TLe.put (d := 2) (VLe.refl _) (TLe.put (d := 4) (VLe.refl _) (TLe.put (d := 6) (VLe.refl _) (TLe.put (d := 7) (VLe.refl _) (TLe.put (d := 8) (VLe.refl _) (TLe.put (d := 38) (VLe.refl _) (TLe.put (d := 39) (VLe.refl _) (TLe.put (d := 40) (by exact VLe.of_eq (congrArg (V.int .i64) (by first | rfl | omega))) (TLe.zero _)))))))))) (HLe.refl _) ⟨_, ?_, k + 1, ?_, rfl, rfl, by rw [evUp_succ hltk, he]; all_goals first | rfl | exact swap_mem n78 | (simp only [Hp.setBox_setBox]; first | rfl | exact swap_mem n78)⟩
          · omega
          · omega
        · have e1 : reachesF ((staticsF s).getD k noStat) s i = true := by simpa using c1
          refine AW.skip ?_
          refine AW.seq ?_
          refine AW.region ?_
          refine AOps.q rfl rfl rfl (q_fa_i rfl Tryz.underlying162 rfl (by exact Tryz.sizeOf99) (by decide) rfl (rfl : _ = List.drop 3 _)) ?_
          refine AOps.q rfl rfl rfl (q_fa_i rfl Tryz.underlying99 rfl (by exact Tryz.sizeOf3) (by decide) rfl (rfl : _ = List.drop 0 _)) ?_
          refine AOps.q rfl rfl rfl (q_load_i1 rfl Tryz.isAgg3 rfl rfl) ?_
          refine AOps.nil ?_
          refine AW.block ?_
          refine AW.seq ?_
          refine AW.region ?_
          refine AOps.q rfl rfl rfl (q_eq rfl rfl rfl) ?_
          refine AOps.q rfl rfl rfl (q_as rfl (rfl : _ = V.bool _)) ?_
          refine AOps.nil ?_
          refine AW.cond rfl (fun c2 => ?_) (fun c2 => ?_)
          · have e2 : ((staticsF s).getD k noStat).doo.op = 24 := of_decide_eq_true c2
            have he : evStep s i (evUp s i k) ((staticsF s).getD k noStat) = ⟨⟨((staticsF s).getD k noStat).doo.n, ((staticsF s).getD k noStat).doo.m, (evUp s i k).out.w⟩, (evUp s i k).more⟩ := by simp [-List.getD_eq_getElem?_getD, evStep, e1, e2]
            refine AW.draw [7, 9] [3, 4, 5] [(0, true), (1, true), (2, true), (3, true), (4, true), (5, true), (6, true), (7, false), (8, true), (9, false)] mixed (by kernel_rfl) rfl (by kernel_rfl) ?_
            refine AOrd.q rfl rfl rfl rfl (q_fa_i rfl Tryz.underlying162 rfl (by exact Tryz.sizeOf99) (by decide) rfl (rfl : _ = List.drop 3 _)) ?_
            refine AOrd.q rfl rfl rfl rfl (q_fa_i rfl Tryz.underlying99 rfl (by exact Tryz.sizeOf3) (by decide) rfl (rfl : _ = List.drop 1 _)) ?_
            refine AOrd.q rfl rfl rfl rfl (q_load_i1 rfl Tryz.isAgg3 rfl rfl) ?_
            refine AOrd.p rfl rfl rfl (fun _ => q_fa_i rfl Tryz.underlying162 rfl (by exact Tryz.sizeOf99) (by decide) rfl (rfl : _ = List.drop 3 _)) ?_
            refine AOrd.p rfl rfl rfl (fun _ => q_fa_i rfl Tryz.underlying99 rfl (by exact Tryz.sizeOf3) (by decide) rfl (rfl : _ = List.drop 2 _)) ?_
            refine AOrd.p rfl rfl rfl (fun _ => q_load_i1 rfl Tryz.isAgg3 rfl rfl) ?_
            refine AOrd.q rfl rfl rfl rfl (q_fa_b rfl Tryz.underlying104 rfl (by exact Tryz.sizeOf3) (by decide) rfl (rfl : _ = 0)) ?_
            refine AOrd.s0 rfl rfl rfl rfl (a_store1 rfl Tryz.sizeOf3 rfl ((by first | exact Hp.box_setBox _ _ _ | exact box_under n78.symm (Hp.box_setBox _ _ _) | exact box_under n48.symm (box_under n47.symm (Hp.box_setBox _ _ _)))) (rfl : _ = V.int _ _) rfl rfl (by first | decide | exact Nat.le_of_ble_eq_true rfl) ?_)
            refine AOrd.q rfl rfl rfl rfl (q_fa_b rfl Tryz.underlying104 rfl (by exact Tryz.sizeOf3) (by decide) rfl (rfl : _ = 1)) ?_
            refine AOrd.s0 rfl rfl rfl rfl (a_store1 rfl Tryz.sizeOf3 rfl ((by first | exact Hp.box_setBox _ _ _ | exact box_under n78.symm (Hp.box_setBox _ _ _) | exact box_under n48.symm (box_under n47.symm (Hp.box_setBox _ _ _)))) (rfl : _ = V.int _ _) rfl rfl (by first | decide | exact Nat.le_of_ble_eq_true rfl) ?_)
            refine AOrd.nil ?_
            refine AW.region ?_
            refine AOps.q rfl rfl rfl (q_add' rfl rfl rfl (by omega)) ?_
            refine AOps.q rfl rfl rfl (q_mv rfl (rfl : _ = V.int _ _)) ?_
            refine AOps.nil ?_
            refine Wk.mk (TLe.put (d := 1) (VLe.refl _) (TLe.put (d := 2) (VLe.refl _) (TLe.put (d := 4) (VLe.refl _) (TLe.put (d := 6) (VLe.refl _) (TLe.put (d := 7) (VLe.refl _) (TLe.put (d := 8) (VLe.refl _) (TLe.put (d := 38) (VLe.refl _) (TLe.put (d := 39) (VLe.refl _) (TLe.put (d := 40) (by exact VLe.of_eq (congrArg (V.int .i64) (by first | rfl | omega))) (TLe.zero _)))))))))) (HLe.refl _) ⟨_, ?_, k + 1, ?_, rfl, rfl, by rw [evUp_succ hltk, he]; all_goals first | rfl | exact swap_mem n78 | (simp only [Hp.setBox_setBox]; first | rfl | exact swap_mem n78)⟩
            · omega
            · omega
          · have e2 : ¬ ((staticsF s).getD k noStat).doo.op = 24 := of_decide_eq_false c2
            refine AW.seq ?_
            refine AW.region ?_
            refine AOps.q rfl rfl rfl (q_eq rfl rfl rfl) ?_
            refine AOps.q rfl rfl rfl (q_as rfl (rfl : _ = V.bool _)) ?_
            refine AOps.nil ?_
            refine AW.cond rfl (fun c3 => ?_) (fun c3 => ?_)
            · have e3 : ((staticsF s).getD k noStat).doo.op = 10 := of_decide_eq_true c3
              have he : evStep s i (evUp s i k) ((staticsF s).getD k noStat) = ⟨(evUp s i k).out, ⟨(evUp s i k).more.p + ((staticsF s).getD k noStat).doo.n, (evUp s i k).more.t + ((staticsF s).getD k noStat).doo.m, (evUp s i k).more.w⟩⟩ := by simp [-List.getD_eq_getElem?_getD, evStep, e1, e3]
              refine AW.seq ?_
              refine AW.region ?_
              refine AOps.q rfl rfl rfl (q_fa_b rfl Tryz.underlying104 rfl (by exact Tryz.sizeOf3) (by decide) rfl (rfl : _ = 0)) ?_
              refine AOps.q rfl rfl rfl (q_load_b1 rfl Tryz.isAgg3 rfl ((by first | exact Hp.box_setBox _ _ _ | exact box_under n78.symm (Hp.box_setBox _ _ _) | exact box_under n48.symm (box_under n47.symm (Hp.box_setBox _ _ _)))) rfl) ?_
              refine AOps.q rfl rfl rfl (q_fa_i rfl Tryz.underlying162 rfl (by exact Tryz.sizeOf99) (by decide) rfl (rfl : _ = List.drop 3 _)) ?_
              refine AOps.q rfl rfl rfl (q_fa_i rfl Tryz.underlying99 rfl (by exact Tryz.sizeOf3) (by decide) rfl (rfl : _ = List.drop 1 _)) ?_
              refine AOps.q rfl rfl rfl (q_load_i1 rfl Tryz.isAgg3 rfl rfl) ?_
              refine AOps.q rfl rfl rfl (q_add' rfl rfl rfl (by omega)) ?_
              refine AOps.q rfl rfl rfl (q_fa_b rfl Tryz.underlying104 rfl (by exact Tryz.sizeOf3) (by decide) rfl (rfl : _ = 0)) ?_
              refine AOps.s0 rfl rfl (a_store1 rfl Tryz.sizeOf3 rfl ((by first | exact Hp.box_setBox _ _ _ | exact box_under n78.symm (Hp.box_setBox _ _ _) | exact box_under n48.symm (box_under n47.symm (Hp.box_setBox _ _ _)))) (rfl : _ = V.int _ _) rfl rfl (by first | decide | exact Nat.le_of_ble_eq_true rfl) ?_)
              refine AOps.nil ?_
              refine AW.region ?_
              refine AOps.q rfl rfl rfl (q_fa_b rfl Tryz.underlying104 rfl (by exact Tryz.sizeOf3) (by decide) rfl (rfl : _ = 1)) ?_
              refine AOps.q rfl rfl rfl (q_load_b1 rfl Tryz.isAgg3 rfl ((by first | exact Hp.box_setBox _ _ _ | exact box_under n78.symm (Hp.box_setBox _ _ _) | exact box_under n48.symm (box_under n47.symm (Hp.box_setBox _ _ _)))) rfl) ?_
              refine AOps.q rfl rfl rfl (q_fa_i rfl Tryz.underlying162 rfl (by exact Tryz.sizeOf99) (by decide) rfl (rfl : _ = List.drop 3 _)) ?_
              refine AOps.q rfl rfl rfl (q_fa_i rfl Tryz.underlying99 rfl (by exact Tryz.sizeOf3) (by decide) rfl (rfl : _ = List.drop 2 _)) ?_
              refine AOps.q rfl rfl rfl (q_load_i1 rfl Tryz.isAgg3 rfl rfl) ?_
              refine AOps.q rfl rfl rfl (q_add' rfl rfl rfl (by omega)) ?_
              refine AOps.q rfl rfl rfl (q_fa_b rfl Tryz.underlying104 rfl (by exact Tryz.sizeOf3) (by decide) rfl (rfl : _ = 1)) ?_
              refine AOps.s0 rfl rfl (a_store1 rfl Tryz.sizeOf3 rfl ((by first | exact Hp.box_setBox _ _ _ | exact box_under n78.symm (Hp.box_setBox _ _ _) | exact box_under n48.symm (box_under n47.symm (Hp.box_setBox _ _ _)))) (rfl : _ = V.int _ _) rfl rfl (by first | decide | exact Nat.le_of_ble_eq_true rfl) ?_)
              refine AOps.nil ?_
              refine AW.region ?_
              refine AOps.q rfl rfl rfl (q_add' rfl rfl rfl (by omega)) ?_
              refine AOps.q rfl rfl rfl (q_mv rfl (rfl : _ = V.int _ _)) ?_
              refine AOps.nil ?_
              refine Wk.mk (TLe.put (d := 1) (VLe.refl _) (TLe.put (d := 2) (VLe.refl _) (TLe.put (d := 4) (VLe.refl _) (TLe.put (d := 6) (VLe.refl _) (TLe.put (d := 7) (VLe.refl _) (TLe.put (d := 8) (VLe.refl _) (TLe.put (d := 38) (VLe.refl _) (TLe.put (d := 39) (VLe.refl _) (TLe.put (d := 40) (by exact VLe.of_eq (congrArg (V.int .i64) (by first | rfl | omega))) (TLe.zero _)))))))))) (HLe.refl _) ⟨_, ?_, k + 1, ?_, rfl, rfl, by rw [evUp_succ hltk, he]; all_goals first | rfl | exact swap_mem n78 | (simp only [Hp.setBox_setBox]; first | rfl | exact swap_mem n78)⟩
              · omega
              · omega
            · have e3 : ¬ ((staticsF s).getD k noStat).doo.op = 10 := of_decide_eq_false c3
              refine AW.seq ?_
              refine AW.region ?_
              refine AOps.q rfl rfl rfl (q_eq rfl rfl rfl) ?_
              refine AOps.q rfl rfl rfl (q_as rfl (rfl : _ = V.bool _)) ?_
              refine AOps.nil ?_
              refine AW.cond rfl (fun c4 => ?_) (fun c4 => ?_)
              · have e4 : ((staticsF s).getD k noStat).doo.op = 23 := of_decide_eq_true c4
                have he : evStep s i (evUp s i k) ((staticsF s).getD k noStat) = ⟨⟨(evUp s i k).out.p, (evUp s i k).out.t, bitop .or .i64 (evUp s i k).out.w ((staticsF s).getD k noStat).doo.n⟩, (evUp s i k).more⟩ := by simp [-List.getD_eq_getElem?_getD, evStep, e1, e4]
                refine AW.region ?_
                refine AOps.q rfl rfl rfl (q_fa_b rfl Tryz.underlying104 rfl (by exact Tryz.sizeOf3) (by decide) rfl (rfl : _ = 2)) ?_
                refine AOps.q rfl rfl rfl (q_load_b1 rfl Tryz.isAgg3 rfl ((by first | exact Hp.box_setBox _ _ _ | exact box_under n78.symm (Hp.box_setBox _ _ _) | exact box_under n48.symm (box_under n47.symm (Hp.box_setBox _ _ _)))) rfl) ?_
                refine AOps.q rfl rfl rfl (q_fa_i rfl Tryz.underlying162 rfl (by exact Tryz.sizeOf99) (by decide) rfl (rfl : _ = List.drop 3 _)) ?_
                refine AOps.q rfl rfl rfl (q_fa_i rfl Tryz.underlying99 rfl (by exact Tryz.sizeOf3) (by decide) rfl (rfl : _ = List.drop 1 _)) ?_
                refine AOps.q rfl rfl rfl (q_load_i1 rfl Tryz.isAgg3 rfl rfl) ?_
                refine AOps.q rfl rfl rfl (q_bit rfl rfl rfl rfl) ?_
                refine AOps.q rfl rfl rfl (q_fa_b rfl Tryz.underlying104 rfl (by exact Tryz.sizeOf3) (by decide) rfl (rfl : _ = 2)) ?_
                refine AOps.s0 rfl rfl (a_store1 rfl Tryz.sizeOf3 rfl ((by first | exact Hp.box_setBox _ _ _ | exact box_under n78.symm (Hp.box_setBox _ _ _) | exact box_under n48.symm (box_under n47.symm (Hp.box_setBox _ _ _)))) (rfl : _ = V.int _ _) rfl rfl (by first | decide | exact Nat.le_of_ble_eq_true rfl) ?_)
                refine AOps.nil ?_
                refine AW.region ?_
                refine AOps.q rfl rfl rfl (q_add' rfl rfl rfl (by omega)) ?_
                refine AOps.q rfl rfl rfl (q_mv rfl (rfl : _ = V.int _ _)) ?_
                refine AOps.nil ?_
                refine Wk.mk (TLe.put (d := 1) (VLe.refl _) (TLe.put (d := 2) (VLe.refl _) (TLe.put (d := 4) (VLe.refl _) (TLe.put (d := 6) (VLe.refl _) (TLe.put (d := 7) (VLe.refl _) (TLe.put (d := 8) (VLe.refl _) (TLe.put (d := 38) (VLe.refl _) (TLe.put (d := 39) (VLe.refl _) (TLe.put (d := 40) (by exact VLe.of_eq (congrArg (V.int .i64) (by first | rfl | omega))) (TLe.zero _)))))))))) (HLe.refl _) ⟨_, ?_, k + 1, ?_, rfl, rfl, by rw [evUp_succ hltk, he]; all_goals first | rfl | exact swap_mem n78 | (simp only [Hp.setBox_setBox]; first | rfl | exact swap_mem n78)⟩
                · omega
                · omega
              · have e4 : ¬ ((staticsF s).getD k noStat).doo.op = 23 := of_decide_eq_false c4
                refine AW.seq ?_
                refine AW.region ?_
                refine AOps.q rfl rfl rfl (q_eq rfl rfl rfl) ?_
                refine AOps.q rfl rfl rfl (q_as rfl (rfl : _ = V.bool _)) ?_
                refine AOps.nil ?_
                refine AW.cond rfl (fun c5 => ?_) (fun c5 => ?_)
                · have e5 : ((staticsF s).getD k noStat).doo.op = 25 := of_decide_eq_true c5
                  have he : evStep s i (evUp s i k) ((staticsF s).getD k noStat) = ⟨⟨(evUp s i k).out.p, (evUp s i k).out.t, bitop .andNot .i64 (evUp s i k).out.w ((staticsF s).getD k noStat).doo.n⟩, (evUp s i k).more⟩ := by simp [-List.getD_eq_getElem?_getD, evStep, e1, e5]
                  refine AW.region ?_
                  refine AOps.q rfl rfl rfl (q_fa_b rfl Tryz.underlying104 rfl (by exact Tryz.sizeOf3) (by decide) rfl (rfl : _ = 2)) ?_
                  refine AOps.q rfl rfl rfl (q_load_b1 rfl Tryz.isAgg3 rfl ((by first | exact Hp.box_setBox _ _ _ | exact box_under n78.symm (Hp.box_setBox _ _ _) | exact box_under n48.symm (box_under n47.symm (Hp.box_setBox _ _ _)))) rfl) ?_
                  refine AOps.q rfl rfl rfl (q_fa_i rfl Tryz.underlying162 rfl (by exact Tryz.sizeOf99) (by decide) rfl (rfl : _ = List.drop 3 _)) ?_
                  refine AOps.q rfl rfl rfl (q_fa_i rfl Tryz.underlying99 rfl (by exact Tryz.sizeOf3) (by decide) rfl (rfl : _ = List.drop 1 _)) ?_
                  refine AOps.q rfl rfl rfl (q_load_i1 rfl Tryz.isAgg3 rfl rfl) ?_
                  refine AOps.q rfl rfl rfl (q_bit rfl rfl rfl rfl) ?_
                  refine AOps.q rfl rfl rfl (q_fa_b rfl Tryz.underlying104 rfl (by exact Tryz.sizeOf3) (by decide) rfl (rfl : _ = 2)) ?_
                  refine AOps.s0 rfl rfl (a_store1 rfl Tryz.sizeOf3 rfl ((by first | exact Hp.box_setBox _ _ _ | exact box_under n78.symm (Hp.box_setBox _ _ _) | exact box_under n48.symm (box_under n47.symm (Hp.box_setBox _ _ _)))) (rfl : _ = V.int _ _) rfl rfl (by first | decide | exact Nat.le_of_ble_eq_true rfl) ?_)
                  refine AOps.nil ?_
                  refine AW.region ?_
                  refine AOps.q rfl rfl rfl (q_add' rfl rfl rfl (by omega)) ?_
                  refine AOps.q rfl rfl rfl (q_mv rfl (rfl : _ = V.int _ _)) ?_
                  refine AOps.nil ?_
                  refine Wk.mk (TLe.put (d := 1) (VLe.refl _) (TLe.put (d := 2) (VLe.refl _) (TLe.put (d := 4) (VLe.refl _) (TLe.put (d := 6) (VLe.refl _) (TLe.put (d := 7) (VLe.refl _) (TLe.put (d := 8) (VLe.refl _) (TLe.put (d := 38) (VLe.refl _) (TLe.put (d := 39) (VLe.refl _) (TLe.put (d := 40) (by exact VLe.of_eq (congrArg (V.int .i64) (by first | rfl | omega))) (TLe.zero _)))))))))) (HLe.refl _) ⟨_, ?_, k + 1, ?_, rfl, rfl, by rw [evUp_succ hltk, he]; all_goals first | rfl | exact swap_mem n78 | (simp only [Hp.setBox_setBox]; first | rfl | exact swap_mem n78)⟩
                  · omega
                  · omega
                · have e5 : ¬ ((staticsF s).getD k noStat).doo.op = 25 := of_decide_eq_false c5
                  have he : evStep s i (evUp s i k) ((staticsF s).getD k noStat) = (evUp s i k) := by simp [-List.getD_eq_getElem?_getD, evStep, e1, e2, e3, e4, e5]
                  refine AW.skip ?_
                  refine AW.region ?_
                  refine AOps.q rfl rfl rfl (q_add' rfl rfl rfl (by omega)) ?_
                  refine AOps.q rfl rfl rfl (q_mv rfl (rfl : _ = V.int _ _)) ?_
                  refine AOps.nil ?_
                  refine Wk.mk (TLe.put (d := 1) (VLe.refl _) (TLe.put (d := 2) (VLe.refl _) (TLe.put (d := 4) (VLe.refl _) (TLe.put (d := 6) (VLe.refl _) (TLe.put (d := 7) (VLe.refl _) (TLe.put (d := 8) (VLe.refl _) (TLe.put (d := 38) (VLe.refl _) (TLe.put (d := 39) (VLe.refl _) (TLe.put (d := 40) (by exact VLe.of_eq (congrArg (V.int .i64) (by first | rfl | omega))) (TLe.zero _)))))))))) (HLe.refl _) ⟨_, ?_, k + 1, ?_, rfl, rfl, by rw [evUp_succ hltk, he]; all_goals first | rfl | exact swap_mem n78 | (simp only [Hp.setBox_setBox]; first | rfl | exact swap_mem n78)⟩
                  · omega
                  · omega
      · obtain rfl : k = (staticsF s).length := by have := of_decide_eq_false c0; omega
        have hbd := evUp_bd hob _ (Nat.le_refl _)
        rw [evUp_all] at hbd ⊢
        obtain ⟨⟨q1, q2, q3, q4⟩, q5, q6, q7, q8⟩ := hbd
        have n78 := fresh_ne hid8
        have n47 := fresh_ne hid7
        have n48 : id4 ≠ id8 := Hp.ne_of_box (box_under n47.symm (Hp.box_setBox _ _ _)) hid8.1
        refine AW.exit ?_
        refine AW.seq ?_
        refine AW.region ?_
        refine AOps.q rfl rfl rfl (q_fa_b rfl Tryz.underlying104 rfl (by exact Tryz.sizeOf3) (by decide) rfl (rfl : _ = 0)) ?_
        refine AOps.q rfl rfl rfl (q_load_b1 rfl Tryz.isAgg3 rfl ((by first | exact Hp.box_setBox _ _ _ | exact box_under n78.symm (Hp.box_setBox _ _ _) | exact box_under n48.symm (box_under n47.symm (Hp.box_setBox _ _ _)))) rfl) ?_
        refine AOps.q rfl rfl rfl (q_fa_b rfl Tryz.underlying104 rfl (by exact Tryz.sizeOf3) (by decide) rfl (rfl : _ = 0)) ?_
        refine AOps.q rfl rfl rfl (q_load_b1 rfl Tryz.isAgg3 rfl ((by first | exact Hp.box_setBox _ _ _ | exact box_under n78.symm (Hp.box_setBox _ _ _) | exact box_under n48.symm (box_under n47.symm (Hp.box_setBox _ _ _)))) rfl) ?_
        refine AOps.q rfl rfl rfl (q_add' rfl rfl rfl (by omega)) ?_
        refine AOps.q rfl rfl rfl (q_fa_b rfl Tryz.underlying104 rfl (by exact Tryz.sizeOf3) (by decide) rfl (rfl : _ = 1)) ?_
        refine AOps.q rfl rfl rfl (q_load_b1 rfl Tryz.isAgg3 rfl ((by first | exact Hp.box_setBox _ _ _ | exact box_under n78.symm (Hp.box_setBox _ _ _) | exact box_under n48.symm (box_under n47.symm (Hp.box_setBox _ _ _)))) rfl) ?_
        refine AOps.q rfl rfl rfl (q_fa_b rfl Tryz.underlying104 rfl (by exact Tryz.sizeOf3) (by decide) rfl (rfl : _ = 1)) ?_
        refine AOps.q rfl rfl rfl (q_load_b1 rfl Tryz.isAgg3 rfl ((by first | exact Hp.box_setBox _ _ _ | exact box_under n78.symm (Hp.box_setBox _ _ _) | exact box_under n48.symm (box_under n47.symm (Hp.box_setBox _ _ _)))) rfl) ?_
        refine AOps.q rfl rfl rfl (q_add' rfl rfl rfl (by omega)) ?_
        refine AOps.q rfl rfl rfl (q_fa_b rfl Tryz.underlying104 rfl (by exact Tryz.sizeOf3) (by decide) rfl (rfl : _ = 2)) ?_
        refine AOps.q rfl rfl rfl (q_load_b1 rfl Tryz.isAgg3 rfl ((by first | exact Hp.box_setBox _ _ _ | exact box_under n78.symm (Hp.box_setBox _ _ _) | exact box_under n48.symm (box_under n47.symm (Hp.box_setBox _ _ _)))) rfl) ?_
        refine AOps.q rfl rfl rfl (q_ia_ai rfl Tryz.underlying49 Tryz.sizeOf3 rfl rfl (by decide) (by decide) rfl) ?_
        refine AOps.q rfl rfl rfl (q_load_i1 rfl Tryz.isAgg3 rfl rfl) ?_
        refine AOps.q rfl rfl rfl (q_bit rfl rfl rfl rfl) ?_
        refine AOps.q rfl rfl rfl (q_buildS rfl Tryz.zeroValue104 Tryz.underlying104 (pl104 Tryz.underlying104) rfl rfl) ?_
        refine AOps.s0 rfl rfl (a_storeA rfl Tryz.sizeOf104 rfl ((by first | exact Hp.box_setBox _ _ _ | exact box_under n78.symm (Hp.box_setBox _ _ _) | exact box_under n48.symm (box_under n47.symm (Hp.box_setBox _ _ _)))) (rfl : _ = V.agg _) rfl (by first | decide | exact Nat.le_of_ble_eq_true rfl) ?_)
        refine AOps.nil ?_
        refine AW.ret ?_
        exact retQ.mk' (Res.cellB Tryz.isAgg104 Tryz.sizeOf104 rfl (by exact Hp.box_setBox _ _ _) rfl) (VLe.refl _) (HLe.over (HLe.over (HLe.over (HLe.over (HLe.refl _) hid4.1) (none_of hid7.1)) (none_of (none_of hid8.1))) hid4.1) ⟨rfl, rfl⟩

end Go.Proofs.YtnbmcbkokaoapaaGreatDoor
