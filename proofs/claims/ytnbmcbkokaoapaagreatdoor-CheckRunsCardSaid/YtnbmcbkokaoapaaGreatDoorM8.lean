/- Walks: a creature's shape. -/
import Derived.Test.YtnbmcbkokaoapaaGreatDoorM7
namespace Go.Proofs.YtnbmcbkokaoapaaGreatDoor
open Go Go.AV Go.Proofs.Tryz
set_option maxRecDepth 100000
set_option maxHeartbeats 1000000
/-- A shape: power, toughness, words. -/
structure Sh where
  p : Int
  t : Int
  w : Int
def cSh (x : Sh) : List V := [.int .i64 x.p, .int .i64 x.t, .int .i64 x.w]
structure Sum where
  out : Sh
  more : Sh
def evStep (s : St) (id : Int) (a : Sum) (x : Static) : Sum :=
  if reachesF x s id = false then a
  else if x.doo.op = 24 then ⟨⟨x.doo.n, x.doo.m, a.out.w⟩, a.more⟩
  else if x.doo.op = 10 then ⟨a.out, ⟨a.more.p + x.doo.n, a.more.t + x.doo.m, a.more.w⟩⟩
  else if x.doo.op = 23 then ⟨⟨a.out.p, a.out.t, bitop .or .i64 a.out.w x.doo.n⟩, a.more⟩
  else if x.doo.op = 25 then ⟨⟨a.out.p, a.out.t, bitop .andNot .i64 a.out.w x.doo.n⟩, a.more⟩
  else a
def ev0 (s : St) (id : Int) : Sum :=
  let c := kindF s id
  let o := s.objs.getD id.toNat noObj
  ⟨⟨c.power, c.tough, c.says⟩, ⟨o 7 + o 8, o 7 + o 9, 0⟩⟩
def evSum (s : St) (id : Int) (l : List Static) : Sum := l.foldl (evStep s id) (ev0 s id)
def evalF (s : St) (id : Int) : Sh :=
  let a := evSum s id (staticsF s)
  ⟨a.out.p + a.more.p, a.out.t + a.more.t, bitop .or .i64 a.out.w (s.objs.getD id.toNat noObj 10)⟩
def evUp (s : St) (id : Int) (k : Nat) : Sum := evSum s id ((staticsF s).take k)
def noStat : Static := ⟨0, 0, 0, noEff0⟩
theorem evUp_zero {s : St} {id : Int} : evUp s id 0 = ev0 s id := by simp [evUp, evSum]
theorem evUp_succ {s : St} {id : Int} {k : Nat} (h : k < (staticsF s).length) : evUp s id (k + 1) = evStep s id (evUp s id k) ((staticsF s).getD k noStat) := by
  rw [evUp, List.take_add_one, List.getElem?_eq_getElem h, evSum, Option.toList_some, List.foldl_append, getD_of' h]; rfl
theorem evUp_all {s : St} {id : Int} : evUp s id (staticsF s).length = evSum s id (staticsF s) := by rw [evUp, List.take_length]
def small2 (e : Eff0) : Bool := decide (-1000 ≤ e.n) && decide (e.n ≤ 1000) && decide (-1000 ≤ e.m) && decide (e.m ≤ 1000)
theorem cardF_small : ∀ k : Fin 120, ((cardF (k.val : Int)).abs.all fun a => a.doo.subs.all small2) = true ∧ (-1000 ≤ (cardF (k.val : Int)).power ∧ (cardF (k.val : Int)).power ≤ 1000) ∧ (-1000 ≤ (cardF (k.val : Int)).tough ∧ (cardF (k.val : Int)).tough ≤ 1000) := by decide +kernel
def sm (x y : Int) : Prop := -1000 ≤ x ∧ x ≤ 1000 ∧ -1000 ≤ y ∧ y ≤ 1000
theorem small2_iff {e : Eff0} (h : small2 e = true) : sm e.n e.m := by
  simp only [small2, Bool.and_eq_true, decide_eq_true_eq] at h; exact ⟨h.1.1.1, h.1.1.2, h.1.2, h.2⟩
theorem cardE_small (n : Int) : (∀ a ∈ (cardE n).1.abs, ∀ e ∈ a.doo.subs, sm e.n e.m) ∧ sm (cardE n).1.power (cardE n).1.tough := by
  unfold cardE
  split
  · exact ⟨by simp [noCard], by simp only [noCard, sm]; decide⟩
  · rename_i h
    have := cardF_small ⟨n.toNat, by omega⟩
    have e : ((n.toNat : Nat) : Int) = n := by omega
    simp only [e, List.all_eq_true] at this
    exact ⟨fun a ha x hx => small2_iff (this.1 a ha x hx), this.2.1.1, this.2.1.2, this.2.2.1, this.2.2.2⟩
theorem statics_small {s : St} : ∀ x ∈ staticsF s, sm x.doo.n x.doo.m := by
  intro x hx
  simp only [staticsF, List.mem_flatMap, staticsOf, List.mem_map] at hx
  obtain ⟨id, _, j, hj, rfl⟩ := hx
  obtain ⟨h0, h1, _⟩ := uses_in hj
  have hlt : j.toNat < (kindF s id).abs.length := by omega
  have hpos := static_pos hj
  refine (cardE_small (s.objs.getD id.toNat noObj 0)).1 ((kindF s id).abs.getD j.toNat noAb) ?_ _ ?_
  · rw [getD_of' hlt]; exact List.getElem_mem hlt
  · simp only [staticOf]; rw [getD_of' hpos]; exact List.getElem_mem hpos
def bd (c : Int) (a : Sum) : Prop := sm a.out.p a.out.t ∧ (-c ≤ a.more.p ∧ a.more.p ≤ c ∧ -c ≤ a.more.t ∧ a.more.t ≤ c)
theorem evStep_bd {s : St} {id : Int} {a : Sum} {x : Static} {c : Int} (hc : 0 ≤ c) (h : bd c a) (hx : sm x.doo.n x.doo.m) : bd (c + 1000) (evStep s id a x) := by
  obtain ⟨⟨h1, h2, h3, h4⟩, h5, h6, h7, h8⟩ := h
  obtain ⟨x1, x2, x3, x4⟩ := hx
  unfold evStep
  repeat' split
  all_goals refine ⟨⟨?_, ?_, ?_, ?_⟩, ?_, ?_, ?_, ?_⟩ <;> (try dsimp only) <;> omega
def obd (o : Obj) : Prop := (0 ≤ o 7 ∧ o 7 ≤ 1073741824) ∧ (-1073741824 ≤ o 8 ∧ o 8 ≤ 1073741824) ∧ (-1073741824 ≤ o 9 ∧ o 9 ≤ 1073741824)
theorem ev0_bd {s : St} {id : Int} (h : obd (s.objs.getD id.toNat noObj)) : bd 4294967296 (ev0 s id) := by
  obtain ⟨⟨a, b⟩, ⟨c, d⟩, e, f⟩ := h
  refine ⟨(cardE_small (s.objs.getD id.toNat noObj 0)).2, ?_, ?_, ?_, ?_⟩ <;> simp only [ev0] <;> omega
theorem getD_mem' {α : Type} {z : α} {l : List α} {k : Nat} (h : k < l.length) : l.getD k z ∈ l := by
  rw [getD_of' h]; exact List.getElem_mem h
theorem evUp_bd {s : St} {id : Int} (h : obd (s.objs.getD id.toNat noObj)) (k : Nat) (hk : k ≤ (staticsF s).length) : bd (4294967296 + 1000 * k) (evUp s id k) := by
  induction k with
  | zero => rw [evUp_zero]; exact ev0_bd h
  | succ k ih =>
    rw [evUp_succ hk]
    have := evStep_bd (s := s) (id := id) (x := (staticsF s).getD k noStat) (by omega) (ih (by omega)) (statics_small _ (getD_mem' hk))
    have e : (4294967296 + 1000 * ((k + 1 : Nat) : Int)) = 4294967296 + 1000 * (k : Int) + 1000 := by omega
    rw [e]; exact this
theorem static_elem {l : List Static} {i : Nat} (h : i < l.length) : ((cStatics l).drop (Int.toNat (i : Int) * 8)).take 8 = cStatic (l.getD i noStat) := flat_at (f := cStatic) (n := 8) (fun _ => rfl) noStat (i := i) h

theorem box_under {h : Hp} {i j : Nat} {c d : List V} (n : i ≠ j) (e : h.box j = some c) : (h.setBox i d).box j = some c := by rw [Hp.box_setBox_ne _ _ (Ne.symm n)]; exact e
theorem none_of {h : Hp} {i j : Nat} {c : List V} (e : (h.setBox i c).box j = none) : h.box j = none := by
  by_cases n : j = i
  · subst n; rw [Hp.box_setBox] at e; cases e
  · rwa [Hp.box_setBox_ne _ _ n] at e
theorem swap_mem {h : Hp} {i j : Nat} {a b c : List V} (n : i ≠ j) : ((h.setBox i a).setBox j b).setBox i c = (h.setBox i c).setBox j b := by
  rw [Hp.setBox_comm _ _ _ (Ne.symm n), Hp.setBox_setBox]
theorem fresh_ne {h : Hp} {i j : Nat} {c : List V} (f : (h.setBox i c).fresh j) : i ≠ j := Hp.ne_of_box (Hp.box_setBox _ _ _) f.1
theorem fresh_pair {h : Hp} {i j : Nat} {c d : List V} (fi : h.fresh i) (fj : (h.setBox i c).fresh j) : h.fresh j ∧ (h.setBox j d).fresh i := by
  have hne := fresh_ne fj
  exact ⟨⟨by have := fj.1; rwa [Hp.box_setBox_ne _ _ hne.symm] at this, fj.2⟩, fresh_setBox fi hne⟩
theorem a_storeWA' {P : Program} {G : Nat → Option (List V)} {h : Hp} {o : Oper} {ρ : Operand → V} {t : TypeId} {x y : Operand} (ho : o.op = .store t x y) {n : Nat} (hs : ∀ w, (sizeOf t).run P w = .ok n w) {id : Nat} (hx : ρ x = .ptr id 0) {h0 : Hp} {cs : List V} (hh : h = h0.setBox id cs)
    {ds : List V} (hv : ρ y = .agg ds) (hn : ds.length = n) (hc : cs.length = n) {K : V → Hp → Prop} (k : K .junk (h0.setBox id ds)) : AStep P G o ρ h K := a_storeWA ho hs hx hh hv hn hc k
/-- A store into the variable beneath the last one. -/
theorem a_storeU {P : Program} {G : Nat → Option (List V)} {h : Hp} {o : Oper} {ρ : Operand → V} {t : TypeId} {x y : Operand} {id id2 : Nat} (ho : o.op = .store t x y) {n : Nat} (hs : ∀ w, (sizeOf t).run P w = .ok n w) (hx : ρ x = .ptr id 0) {h0 : Hp} {cs c2 : List V} (hf : (h0.setBox id cs).fresh id2) (hh : h = (h0.setBox id cs).setBox id2 c2)
    {ds : List V} (hv : ρ y = .agg ds) (hn : ds.length = n) (hc : cs.length = n) {K : V → Hp → Prop} (k : K .junk ((h0.setBox id ds).setBox id2 c2)) : AStep P G o ρ h K := by
  have hne := fresh_ne hf
  refine a_storeWA (h0 := h0.setBox id2 c2) ho hs hx (by rw [hh, Hp.setBox_comm _ _ _ hne]) hv hn hc ?_
  rw [← Hp.setBox_comm _ _ _ hne]; exact k

theorem eval_calls (s : St) (i : Int) (hi : 0 ≤ i ∧ i < s.objs.length) (hz : ∀ id ∈ s.lists 8, 0 ≤ id ∧ id < s.objs.length) (hl : (s.lists 8).length ≤ 1000000) (hob : obd (s.objs.getD i.toNat noObj)) (h : Hp) : ACalls prog G 94 [eState s, .int .i64 i] h fun r h' => r = .agg (cSh (evalF s i)) ∧ h' = h := by
  obtain ⟨⟨o7, o7'⟩, ⟨o8, o8'⟩, o9, o9'⟩ := id hob
  have hsl : (staticsF s).length ≤ 10000000 := by rw [← stUp_all]; exact stUp_len hl
  refine ACalls.enter func94 rfl ntmps94 results94 rfl ?_
  refine .seq <|
    .region <|
    .bx rfl rfl ?_
  refine AOps.s rfl rfl rfl (a_alloc rfl zeroValue104 rfl (fun id4 hid4 => ?_))
  refine .nil ?_
  refine AW.cut (fun T h1 => ∃ id5 id6, T = put (put (put (put (put T0 1 (V.int .i64 i)) 2 (V.iptr (cState s))) 4 (V.ptr id4 0)) 5 (V.ptr id5 0)) 6 (V.ptr id6 0) ∧ (h.setBox id4 [.int .i64 0, .int .i64 0, .int .i64 0]).fresh id5 ∧ ((h.setBox id4 [.int .i64 0, .int .i64 0, .int .i64 0]).setBox id5 (cCard (kindF s i))).fresh id6 ∧ h1 = ((h.setBox id4 [.int .i64 0, .int .i64 0, .int .i64 0]).setBox id5 (cCard (kindF s i))).setBox id6 (cObj (s.objs.getD i.toNat noObj))) ?_ ?_
  · skip
    refine AW.draw2 [10, 11] [3, 4, 5, 6, 7] [(0, true), (1, true), (2, true), (3, true), (4, true), (5, true), (6, true), (7, true)] 4 mixed (by kernel_rfl) rfl (by kernel_rfl) ?_
    refine .q rfl rfl rfl rfl (q_load_iW rfl isAgg29 sizeOf29 rfl (by rfl)) ?_
    refine .q rfl rfl rfl rfl (q_mv rfl (rfl : _ = V.int _ _)) ?_
    refine .q rfl rfl rfl rfl (QOp.call rfl (by exact call121) fun h' hl' => by exact kind_calls s i hi h') ?_
    refine .p rfl rfl rfl (fun _ => q_fa_i rfl underlying29 rfl (by exact sizeOf22) (by decide) rfl (rfl : _ = List.drop 0 _)) ?_
    refine .p rfl rfl rfl (fun _ => q_load_i1 rfl isAgg22 rfl rfl) ?_
    refine .p rfl rfl rfl (fun _ => q_mv rfl (rfl : _ = V.int _ _)) ?_
    refine .p rfl rfl rfl (fun _ => q_ia_s rfl underlying22 sizeOf49 rfl rfl hi.1 hi.2 (cObjs_elem' hi.1 hi.2)) ?_
    refine .p rfl rfl rfl (fun _ => q_load_iW rfl isAgg49 sizeOf49 rfl (by rfl)) ?_
    refine AOrd.nil ?_
    refine AAny.two 8 9 (by kernel_rfl) (aOp.new rfl rfl rfl (a_alloc rfl zeroValue92 rfl (fun id5 hid5 => ⟨?_, HLe.setBox hid5.1⟩))) (aOp.new rfl rfl rfl (a_alloc rfl zeroValue49 rfl (fun id6 hid6 => ⟨?_, HLe.setBox hid6.1⟩)))
    · skip
      refine AAny.one 9 (by kernel_rfl) (aOp.new rfl rfl rfl (a_alloc rfl zeroValue49 rfl (fun id6 hid6 => ⟨?_, HLe.setBox hid6.1⟩)))
      refine AAny.one 10 (by kernel_rfl) (aOp.st rfl rfl rfl rfl (a_storeU (id := id5) (id2 := id6) rfl sizeOf92 rfl hid6 rfl (rfl : _ = V.agg _) rfl rfl ?_))
      refine AAny.one 11 (by kernel_rfl) (aOp.st rfl rfl rfl rfl (a_storeWA' rfl sizeOf49 rfl (rfl) (rfl : _ = V.agg _) rfl rfl ?_))
      refine AAny.fin (by kernel_rfl) ?_
      exact Wk.mk (TLe.put (d := 6) (VLe.refl _) (TLe.put (d := 5) (VLe.refl _) (TLe.put (d := 4) (VLe.refl _) (TLe.put (d := 2) (VLe.refl _) (TLe.put (d := 1) (VLe.refl _) (TLe.zero _)))))) (HLe.refl _) ⟨id5, id6, rfl, hid5, Hp.fresh_swap hid6, rfl⟩
    · skip
      refine AAny.one 8 (by kernel_rfl) (aOp.new rfl rfl rfl (a_alloc rfl zeroValue92 rfl (fun id5 hid5 => ⟨?_, HLe.setBox hid5.1⟩)))
      refine AAny.one 10 (by kernel_rfl) (aOp.st rfl rfl rfl rfl (a_storeWA' rfl sizeOf92 rfl (rfl) (rfl : _ = V.agg _) rfl rfl ?_))
      refine AAny.one 11 (by kernel_rfl) (aOp.st rfl rfl rfl rfl (a_storeU (id := id6) (id2 := id5) rfl sizeOf49 rfl (Hp.fresh_swap hid5) rfl (rfl : _ = V.agg _) rfl rfl ?_))
      refine AAny.fin (by kernel_rfl) ?_
      exact Wk.mk (TLe.put (d := 6) (VLe.refl _) (TLe.put (d := 5) (VLe.refl _) (TLe.put (d := 4) (VLe.refl _) (TLe.put (d := 2) (VLe.refl _) (TLe.put (d := 1) (VLe.refl _) (TLe.zero _)))))) (HLe.refl _) ⟨id5, id6, rfl, (fresh_pair (d := []) hid6 hid5).1, (fresh_pair hid6 hid5).2, Hp.setBox_comm _ _ _ (fresh_ne hid5)⟩
  · rintro T h1 ⟨id5, id6, rfl, hid5, hid6, rfl⟩
    refine AW.done 6 rfl hid6 ?_
    refine AW.done 5 rfl hid5 ?_
    refine .seq <|
      .region <|
      .fi rfl f92_9 rfl <|
      .li rfl isAgg3 rfl rfl <|
      .fi rfl f92_10 rfl <|
      .li rfl isAgg3 rfl rfl <|
      .fi rfl f92_11 rfl <|
      .li rfl isAgg3 rfl rfl ?_
    refine .u rfl rfl rfl (q_buildS rfl zeroValue104 underlying104 (pl104 underlying104) rfl rfl) ?_
    refine AOps.s rfl rfl rfl (a_alloc rfl zeroValue104 rfl (fun id7 hid7 => ?_))
    refine .sw sizeOf104 rfl rfl rfl rfl <|
      .nil <|
      .seq <|
      .region ?_
    refine .u rfl rfl rfl (q_ia_ai rfl underlying49 sizeOf3 rfl rfl (by decide) (by decide) rfl) ?_
    refine .li rfl isAgg3 rfl rfl ?_
    refine .u rfl rfl rfl (q_ia_ai rfl underlying49 sizeOf3 rfl rfl (by decide) (by decide) rfl) ?_
    refine .li rfl isAgg3 rfl rfl <|
      .ad rfl rfl rfl (by omega) ?_
    refine .u rfl rfl rfl (q_ia_ai rfl underlying49 sizeOf3 rfl rfl (by decide) (by decide) rfl) ?_
    refine .li rfl isAgg3 rfl rfl ?_
    refine .u rfl rfl rfl (q_ia_ai rfl underlying49 sizeOf3 rfl rfl (by decide) (by decide) rfl) ?_
    refine .li rfl isAgg3 rfl rfl <|
      .ad rfl rfl rfl (by omega) ?_
    refine .u rfl rfl rfl (q_buildS rfl zeroValue104 underlying104 (pl104 underlying104) rfl rfl) ?_
    refine AOps.s rfl rfl rfl (a_alloc rfl zeroValue104 rfl (fun id8 hid8 => ?_))
    refine .sw sizeOf104 rfl rfl rfl rfl <|
      .nil <|
      .seq <|
      .seq <|
      .region <|
      .lw rfl isAgg29 sizeOf29 rfl rfl ?_
    refine .u rfl rfl rfl (QOp.call rfl call122 fun h' hl' => by exact statics_calls s hz hl h') ?_
    refine .ln rfl underlying159 rfl <|
      .mI rfl rfl <|
      .nil <|
      .block ?_
    refine AW.loop (fun n T hh => ∃ (k : Nat) , k ≤ (staticsF s).length ∧ n = (staticsF s).length - k ∧ T = put (put (put (put (put (put (put (put (put (T0) 40 (V.int .i64 (k : Nat))) 39 (V.int .i64 (staticsF s).length)) 38 (V.sl .imm 8 (staticsF s).length (cStatics (staticsF s)))) 8 (V.ptr id8 0)) 7 (V.ptr id7 0)) 6 (V.iptr (cObj (s.objs.getD i.toNat noObj)))) 4 (V.ptr id4 0)) 2 (V.iptr (cState s))) 1 (V.int .i64 i) ∧ hh = ((h.setBox id4 [V.int .i64 0, V.int .i64 0, V.int .i64 0]).setBox id7 (cSh (evUp s i k).out)).setBox id8 (cSh (evUp s i k).more)) ((staticsF s).length) ?_ ?_
    · skip
      refine Wk.mk (TLe.put (d := 1) (VLe.refl _) (TLe.put (d := 2) (VLe.refl _) (TLe.put (d := 4) (VLe.refl _) (TLe.put (d := 6) (VLe.refl _) (TLe.put (d := 7) (VLe.refl _) (TLe.put (d := 8) (VLe.refl _) (TLe.put (d := 38) (VLe.refl _) (TLe.put (d := 39) (VLe.refl _) (TLe.put (d := 40) (by exact VLe.of_eq (congrArg (V.int .i64) (by first | rfl | omega))) (TLe.zero _)))))))))) (HLe.refl _) ⟨0, Nat.zero_le _, rfl, rfl, by rw [evUp_zero]; rfl⟩
    · skip
      rintro n T h' ⟨k, hk, rfl, rfl, rfl⟩
      refine .seq <|
        .region <|
        .ql rfl rfl rfl <|
        .nil <|
        .seq ?_
      refine AW.cond rfl (fun c0 => ?_) (fun c0 => ?_)
      · have hltk : k < (staticsF s).length := by have := of_decide_eq_true c0; omega
        have hx := statics_small _ (getD_mem' (z := noStat) hltk)
        obtain ⟨x1, x2, x3, x4⟩ := hx
        obtain ⟨⟨q1, q2, q3, q4⟩, q5, q6, q7, q8⟩ := evUp_bd hob k hk
        have n78 := fresh_ne hid8
        refine AW.skip ?_
        refine .seq <|
          .block <|
          .seq <|
          .region ?_
        refine .u rfl rfl rfl (q_ia_s rfl underlying159 sizeOf162 rfl rfl (by omega) (by omega) (static_elem hltk)) ?_
        refine .lw rfl isAgg162 sizeOf162 rfl rfl ?_
        refine AOps.s rfl rfl rfl (a_alloc rfl zeroValue162 rfl (fun id10 hid10 => ?_))
        refine .sw sizeOf162 rfl rfl rfl rfl ?_
        refine AOps.done 10 rfl hid10 ?_
        refine .nil <|
          .seq <|
          .seq <|
          .region <|
          .lw rfl isAgg162 sizeOf162 rfl rfl <|
          .lw rfl isAgg29 sizeOf29 rfl rfl <|
          .mI rfl rfl ?_
        refine .u rfl rfl rfl (QOp.call rfl call123 fun h' hl' => by exact reaches_calls _ _ _ (by omega) h') ?_
        refine .nt rfl rfl <|
          .nil ?_
        refine AW.cond rfl (fun c1 => ?_) (fun c1 => ?_)
        · have e1 : reachesF ((staticsF s).getD k noStat) s i = false := by simpa using c1
          have he : evStep s i (evUp s i k) ((staticsF s).getD k noStat) = (evUp s i k) := by simp [-List.getD_eq_getElem?_getD, evStep, e1]
          refine AW.exit ?_
          refine .region <|
            .ad rfl rfl rfl (by omega) <|
            .mI rfl rfl <|
            .nil ?_
          refine Wk.mk (TLe.put (d := 1) (VLe.refl _) (TLe.put (d := 2) (VLe.refl _) (TLe.put (d := 4) (VLe.refl _) (TLe.put (d := 6) (VLe.refl _) (TLe.put (d := 7) (VLe.refl _) (TLe.put (d := 8) (VLe.refl _) (TLe.put (d := 38) (VLe.refl _) (TLe.put (d := 39) (VLe.refl _) (TLe.put (d := 40) (by exact VLe.of_eq (congrArg (V.int .i64) (by first | rfl | omega))) (TLe.zero _)))))))))) (HLe.refl _) ⟨_, ?_, k + 1, ?_, rfl, rfl, by rw [evUp_succ hltk, he]; all_goals first | rfl | exact swap_mem n78 | (simp only [Hp.setBox_setBox]; first | rfl | exact swap_mem n78)⟩
          · omega
          · omega
        · have e1 : reachesF ((staticsF s).getD k noStat) s i = true := by simpa using c1
          refine AW.skip ?_
          refine .seq <|
            .region <|
            .fi rfl f162_3 rfl <|
            .fi rfl f99_0 rfl <|
            .li rfl isAgg3 rfl rfl <|
            .nil <|
            .block <|
            .seq <|
            .region <|
            .qe rfl rfl rfl <|
            .aB rfl rfl <|
            .nil ?_
          refine AW.cond rfl (fun c2 => ?_) (fun c2 => ?_)
          · have e2 : ((staticsF s).getD k noStat).doo.op = 24 := of_decide_eq_true c2
            have he : evStep s i (evUp s i k) ((staticsF s).getD k noStat) = ⟨⟨((staticsF s).getD k noStat).doo.n, ((staticsF s).getD k noStat).doo.m, (evUp s i k).out.w⟩, (evUp s i k).more⟩ := by simp [-List.getD_eq_getElem?_getD, evStep, e1, e2]
            refine AW.draw [7, 9] [3, 4, 5] [(0, true), (1, true), (2, true), (3, true), (4, true), (5, true), (6, true), (7, false), (8, true), (9, false)] mixed (by kernel_rfl) rfl (by kernel_rfl) ?_
            refine .q rfl rfl rfl rfl (q_fa_i rfl underlying162 rfl (by exact sizeOf99) (by decide) rfl (rfl : _ = List.drop 3 _)) ?_
            refine .q rfl rfl rfl rfl (q_fa_i rfl underlying99 rfl (by exact sizeOf3) (by decide) rfl (rfl : _ = List.drop 1 _)) ?_
            refine .q rfl rfl rfl rfl (q_load_i1 rfl isAgg3 rfl rfl) ?_
            refine .p rfl rfl rfl (fun _ => q_fa_i rfl underlying162 rfl (by exact sizeOf99) (by decide) rfl (rfl : _ = List.drop 3 _)) ?_
            refine .p rfl rfl rfl (fun _ => q_fa_i rfl underlying99 rfl (by exact sizeOf3) (by decide) rfl (rfl : _ = List.drop 2 _)) ?_
            refine .p rfl rfl rfl (fun _ => q_load_i1 rfl isAgg3 rfl rfl) ?_
            refine .q rfl rfl rfl rfl (q_fa_b rfl underlying104 rfl (by exact sizeOf3) (by decide) rfl (rfl : _ = 0)) ?_
            refine AOrd.s0 rfl rfl rfl rfl (a_store1 rfl sizeOf3 rfl ((by first | exact Hp.box_setBox _ _ _ | exact box_under n78.symm (Hp.box_setBox _ _ _) | exact box_under n48.symm (box_under n47.symm (Hp.box_setBox _ _ _)))) (rfl : _ = V.int _ _) rfl rfl (by first | decide | exact Nat.le_of_ble_eq_true rfl) ?_)
            refine .q rfl rfl rfl rfl (q_fa_b rfl underlying104 rfl (by exact sizeOf3) (by decide) rfl (rfl : _ = 1)) ?_
            refine AOrd.s0 rfl rfl rfl rfl (a_store1 rfl sizeOf3 rfl ((by first | exact Hp.box_setBox _ _ _ | exact box_under n78.symm (Hp.box_setBox _ _ _) | exact box_under n48.symm (box_under n47.symm (Hp.box_setBox _ _ _)))) (rfl : _ = V.int _ _) rfl rfl (by first | decide | exact Nat.le_of_ble_eq_true rfl) ?_)
            refine AOrd.nil ?_
            refine .region <|
              .ad rfl rfl rfl (by omega) <|
              .mI rfl rfl <|
              .nil ?_
            refine Wk.mk (TLe.put (d := 1) (VLe.refl _) (TLe.put (d := 2) (VLe.refl _) (TLe.put (d := 4) (VLe.refl _) (TLe.put (d := 6) (VLe.refl _) (TLe.put (d := 7) (VLe.refl _) (TLe.put (d := 8) (VLe.refl _) (TLe.put (d := 38) (VLe.refl _) (TLe.put (d := 39) (VLe.refl _) (TLe.put (d := 40) (by exact VLe.of_eq (congrArg (V.int .i64) (by first | rfl | omega))) (TLe.zero _)))))))))) (HLe.refl _) ⟨_, ?_, k + 1, ?_, rfl, rfl, by rw [evUp_succ hltk, he]; all_goals first | rfl | exact swap_mem n78 | (simp only [Hp.setBox_setBox]; first | rfl | exact swap_mem n78)⟩
            · omega
            · omega
          · have e2 : ¬ ((staticsF s).getD k noStat).doo.op = 24 := of_decide_eq_false c2
            refine .seq <|
              .region <|
              .qe rfl rfl rfl <|
              .aB rfl rfl <|
              .nil ?_
            refine AW.cond rfl (fun c3 => ?_) (fun c3 => ?_)
            · have e3 : ((staticsF s).getD k noStat).doo.op = 10 := of_decide_eq_true c3
              have he : evStep s i (evUp s i k) ((staticsF s).getD k noStat) = ⟨(evUp s i k).out, ⟨(evUp s i k).more.p + ((staticsF s).getD k noStat).doo.n, (evUp s i k).more.t + ((staticsF s).getD k noStat).doo.m, (evUp s i k).more.w⟩⟩ := by simp [-List.getD_eq_getElem?_getD, evStep, e1, e3]
              refine .seq <|
                .region <|
                .fb rfl f104_0 rfl rfl ?_
              refine .u rfl rfl rfl (q_load_b1 rfl isAgg3 rfl ((by first | exact Hp.box_setBox _ _ _ | exact box_under n78.symm (Hp.box_setBox _ _ _) | exact box_under n48.symm (box_under n47.symm (Hp.box_setBox _ _ _)))) rfl) ?_
              refine .fi rfl f162_3 rfl <|
                .fi rfl f99_1 rfl <|
                .li rfl isAgg3 rfl rfl <|
                .ad rfl rfl rfl (by omega) <|
                .fb rfl f104_0 rfl rfl ?_
              refine AOps.s0 rfl rfl (a_store1 rfl sizeOf3 rfl ((by first | exact Hp.box_setBox _ _ _ | exact box_under n78.symm (Hp.box_setBox _ _ _) | exact box_under n48.symm (box_under n47.symm (Hp.box_setBox _ _ _)))) (rfl : _ = V.int _ _) rfl rfl (by first | decide | exact Nat.le_of_ble_eq_true rfl) ?_)
              refine .nil <|
                .region <|
                .fb rfl f104_1 rfl rfl ?_
              refine .u rfl rfl rfl (q_load_b1 rfl isAgg3 rfl ((by first | exact Hp.box_setBox _ _ _ | exact box_under n78.symm (Hp.box_setBox _ _ _) | exact box_under n48.symm (box_under n47.symm (Hp.box_setBox _ _ _)))) rfl) ?_
              refine .fi rfl f162_3 rfl <|
                .fi rfl f99_2 rfl <|
                .li rfl isAgg3 rfl rfl <|
                .ad rfl rfl rfl (by omega) <|
                .fb rfl f104_1 rfl rfl ?_
              refine AOps.s0 rfl rfl (a_store1 rfl sizeOf3 rfl ((by first | exact Hp.box_setBox _ _ _ | exact box_under n78.symm (Hp.box_setBox _ _ _) | exact box_under n48.symm (box_under n47.symm (Hp.box_setBox _ _ _)))) (rfl : _ = V.int _ _) rfl rfl (by first | decide | exact Nat.le_of_ble_eq_true rfl) ?_)
              refine .nil <|
                .region <|
                .ad rfl rfl rfl (by omega) <|
                .mI rfl rfl <|
                .nil ?_
              refine Wk.mk (TLe.put (d := 1) (VLe.refl _) (TLe.put (d := 2) (VLe.refl _) (TLe.put (d := 4) (VLe.refl _) (TLe.put (d := 6) (VLe.refl _) (TLe.put (d := 7) (VLe.refl _) (TLe.put (d := 8) (VLe.refl _) (TLe.put (d := 38) (VLe.refl _) (TLe.put (d := 39) (VLe.refl _) (TLe.put (d := 40) (by exact VLe.of_eq (congrArg (V.int .i64) (by first | rfl | omega))) (TLe.zero _)))))))))) (HLe.refl _) ⟨_, ?_, k + 1, ?_, rfl, rfl, by rw [evUp_succ hltk, he]; all_goals first | rfl | exact swap_mem n78 | (simp only [Hp.setBox_setBox]; first | rfl | exact swap_mem n78)⟩
              · omega
              · omega
            · have e3 : ¬ ((staticsF s).getD k noStat).doo.op = 10 := of_decide_eq_false c3
              refine .seq <|
                .region <|
                .qe rfl rfl rfl <|
                .aB rfl rfl <|
                .nil ?_
              refine AW.cond rfl (fun c4 => ?_) (fun c4 => ?_)
              · have e4 : ((staticsF s).getD k noStat).doo.op = 23 := of_decide_eq_true c4
                have he : evStep s i (evUp s i k) ((staticsF s).getD k noStat) = ⟨⟨(evUp s i k).out.p, (evUp s i k).out.t, bitop .or .i64 (evUp s i k).out.w ((staticsF s).getD k noStat).doo.n⟩, (evUp s i k).more⟩ := by simp [-List.getD_eq_getElem?_getD, evStep, e1, e4]
                refine .region <|
                  .fb rfl f104_2 rfl rfl ?_
                refine .u rfl rfl rfl (q_load_b1 rfl isAgg3 rfl ((by first | exact Hp.box_setBox _ _ _ | exact box_under n78.symm (Hp.box_setBox _ _ _) | exact box_under n48.symm (box_under n47.symm (Hp.box_setBox _ _ _)))) rfl) ?_
                refine .fi rfl f162_3 rfl <|
                  .fi rfl f99_1 rfl <|
                  .li rfl isAgg3 rfl rfl ?_
                refine .u rfl rfl rfl (q_bit rfl rfl rfl rfl) ?_
                refine .fb rfl f104_2 rfl rfl ?_
                refine AOps.s0 rfl rfl (a_store1 rfl sizeOf3 rfl ((by first | exact Hp.box_setBox _ _ _ | exact box_under n78.symm (Hp.box_setBox _ _ _) | exact box_under n48.symm (box_under n47.symm (Hp.box_setBox _ _ _)))) (rfl : _ = V.int _ _) rfl rfl (by first | decide | exact Nat.le_of_ble_eq_true rfl) ?_)
                refine .nil <|
                  .region <|
                  .ad rfl rfl rfl (by omega) <|
                  .mI rfl rfl <|
                  .nil ?_
                refine Wk.mk (TLe.put (d := 1) (VLe.refl _) (TLe.put (d := 2) (VLe.refl _) (TLe.put (d := 4) (VLe.refl _) (TLe.put (d := 6) (VLe.refl _) (TLe.put (d := 7) (VLe.refl _) (TLe.put (d := 8) (VLe.refl _) (TLe.put (d := 38) (VLe.refl _) (TLe.put (d := 39) (VLe.refl _) (TLe.put (d := 40) (by exact VLe.of_eq (congrArg (V.int .i64) (by first | rfl | omega))) (TLe.zero _)))))))))) (HLe.refl _) ⟨_, ?_, k + 1, ?_, rfl, rfl, by rw [evUp_succ hltk, he]; all_goals first | rfl | exact swap_mem n78 | (simp only [Hp.setBox_setBox]; first | rfl | exact swap_mem n78)⟩
                · omega
                · omega
              · have e4 : ¬ ((staticsF s).getD k noStat).doo.op = 23 := of_decide_eq_false c4
                refine .seq <|
                  .region <|
                  .qe rfl rfl rfl <|
                  .aB rfl rfl <|
                  .nil ?_
                refine AW.cond rfl (fun c5 => ?_) (fun c5 => ?_)
                · have e5 : ((staticsF s).getD k noStat).doo.op = 25 := of_decide_eq_true c5
                  have he : evStep s i (evUp s i k) ((staticsF s).getD k noStat) = ⟨⟨(evUp s i k).out.p, (evUp s i k).out.t, bitop .andNot .i64 (evUp s i k).out.w ((staticsF s).getD k noStat).doo.n⟩, (evUp s i k).more⟩ := by simp [-List.getD_eq_getElem?_getD, evStep, e1, e5]
                  refine .region <|
                    .fb rfl f104_2 rfl rfl ?_
                  refine .u rfl rfl rfl (q_load_b1 rfl isAgg3 rfl ((by first | exact Hp.box_setBox _ _ _ | exact box_under n78.symm (Hp.box_setBox _ _ _) | exact box_under n48.symm (box_under n47.symm (Hp.box_setBox _ _ _)))) rfl) ?_
                  refine .fi rfl f162_3 rfl <|
                    .fi rfl f99_1 rfl <|
                    .li rfl isAgg3 rfl rfl ?_
                  refine .u rfl rfl rfl (q_bit rfl rfl rfl rfl) ?_
                  refine .fb rfl f104_2 rfl rfl ?_
                  refine AOps.s0 rfl rfl (a_store1 rfl sizeOf3 rfl ((by first | exact Hp.box_setBox _ _ _ | exact box_under n78.symm (Hp.box_setBox _ _ _) | exact box_under n48.symm (box_under n47.symm (Hp.box_setBox _ _ _)))) (rfl : _ = V.int _ _) rfl rfl (by first | decide | exact Nat.le_of_ble_eq_true rfl) ?_)
                  refine .nil <|
                    .region <|
                    .ad rfl rfl rfl (by omega) <|
                    .mI rfl rfl <|
                    .nil ?_
                  refine Wk.mk (TLe.put (d := 1) (VLe.refl _) (TLe.put (d := 2) (VLe.refl _) (TLe.put (d := 4) (VLe.refl _) (TLe.put (d := 6) (VLe.refl _) (TLe.put (d := 7) (VLe.refl _) (TLe.put (d := 8) (VLe.refl _) (TLe.put (d := 38) (VLe.refl _) (TLe.put (d := 39) (VLe.refl _) (TLe.put (d := 40) (by exact VLe.of_eq (congrArg (V.int .i64) (by first | rfl | omega))) (TLe.zero _)))))))))) (HLe.refl _) ⟨_, ?_, k + 1, ?_, rfl, rfl, by rw [evUp_succ hltk, he]; all_goals first | rfl | exact swap_mem n78 | (simp only [Hp.setBox_setBox]; first | rfl | exact swap_mem n78)⟩
                  · omega
                  · omega
                · have e5 : ¬ ((staticsF s).getD k noStat).doo.op = 25 := of_decide_eq_false c5
                  have he : evStep s i (evUp s i k) ((staticsF s).getD k noStat) = (evUp s i k) := by simp [-List.getD_eq_getElem?_getD, evStep, e1, e2, e3, e4, e5]
                  refine AW.skip ?_
                  refine .region <|
                    .ad rfl rfl rfl (by omega) <|
                    .mI rfl rfl <|
                    .nil ?_
                  refine Wk.mk (TLe.put (d := 1) (VLe.refl _) (TLe.put (d := 2) (VLe.refl _) (TLe.put (d := 4) (VLe.refl _) (TLe.put (d := 6) (VLe.refl _) (TLe.put (d := 7) (VLe.refl _) (TLe.put (d := 8) (VLe.refl _) (TLe.put (d := 38) (VLe.refl _) (TLe.put (d := 39) (VLe.refl _) (TLe.put (d := 40) (by exact VLe.of_eq (congrArg (V.int .i64) (by first | rfl | omega))) (TLe.zero _)))))))))) (HLe.refl _) ⟨_, ?_, k + 1, ?_, rfl, rfl, by rw [evUp_succ hltk, he]; all_goals first | rfl | exact swap_mem n78 | (simp only [Hp.setBox_setBox]; first | rfl | exact swap_mem n78)⟩
                  · omega
                  · omega
      · obtain rfl : k = (staticsF s).length := by have := of_decide_eq_false c0; omega
        have hbd := evUp_bd hob _ (Nat.le_refl _)
        rw [evUp_all] at hbd ⊢
        obtain ⟨⟨q1, q2, q3, q4⟩, q5, q6, q7, q8⟩ := hbd
        have n78 := fresh_ne hid8
        have n47 := fresh_ne hid7
        have n48 : id4 ≠ id8 := Hp.ne_of_box (box_under n47.symm (Hp.box_setBox _ _ _)) hid8.1
        refine AW.exit ?_
        refine .seq <|
          .region <|
          .fb rfl f104_0 rfl rfl ?_
        refine .u rfl rfl rfl (q_load_b1 rfl isAgg3 rfl ((by first | exact Hp.box_setBox _ _ _ | exact box_under n78.symm (Hp.box_setBox _ _ _) | exact box_under n48.symm (box_under n47.symm (Hp.box_setBox _ _ _)))) rfl) ?_
        refine .fb rfl f104_0 rfl rfl ?_
        refine .u rfl rfl rfl (q_load_b1 rfl isAgg3 rfl ((by first | exact Hp.box_setBox _ _ _ | exact box_under n78.symm (Hp.box_setBox _ _ _) | exact box_under n48.symm (box_under n47.symm (Hp.box_setBox _ _ _)))) rfl) ?_
        refine .ad rfl rfl rfl (by omega) <|
          .fb rfl f104_1 rfl rfl ?_
        refine .u rfl rfl rfl (q_load_b1 rfl isAgg3 rfl ((by first | exact Hp.box_setBox _ _ _ | exact box_under n78.symm (Hp.box_setBox _ _ _) | exact box_under n48.symm (box_under n47.symm (Hp.box_setBox _ _ _)))) rfl) ?_
        refine .fb rfl f104_1 rfl rfl ?_
        refine .u rfl rfl rfl (q_load_b1 rfl isAgg3 rfl ((by first | exact Hp.box_setBox _ _ _ | exact box_under n78.symm (Hp.box_setBox _ _ _) | exact box_under n48.symm (box_under n47.symm (Hp.box_setBox _ _ _)))) rfl) ?_
        refine .ad rfl rfl rfl (by omega) <|
          .fb rfl f104_2 rfl rfl ?_
        refine .u rfl rfl rfl (q_load_b1 rfl isAgg3 rfl ((by first | exact Hp.box_setBox _ _ _ | exact box_under n78.symm (Hp.box_setBox _ _ _) | exact box_under n48.symm (box_under n47.symm (Hp.box_setBox _ _ _)))) rfl) ?_
        refine .u rfl rfl rfl (q_ia_ai rfl underlying49 sizeOf3 rfl rfl (by decide) (by decide) rfl) ?_
        refine .li rfl isAgg3 rfl rfl ?_
        refine .u rfl rfl rfl (q_bit rfl rfl rfl rfl) ?_
        refine .u rfl rfl rfl (q_buildS rfl zeroValue104 underlying104 (pl104 underlying104) rfl rfl) ?_
        refine AOps.s0 rfl rfl (a_storeA rfl sizeOf104 rfl ((by first | exact Hp.box_setBox _ _ _ | exact box_under n78.symm (Hp.box_setBox _ _ _) | exact box_under n48.symm (box_under n47.symm (Hp.box_setBox _ _ _)))) (rfl : _ = V.agg _) rfl (by first | decide | exact Nat.le_of_ble_eq_true rfl) ?_)
        refine .nil ?_
        refine AW.ret ?_
        exact retQ.mk' (Res.cellB isAgg104 sizeOf104 rfl (by exact bsb) rfl) (VLe.refl _) (HLe.over (HLe.over (HLe.over (HLe.over (HLe.refl _) hid4.1) (none_of hid7.1)) (none_of (none_of hid8.1))) hid4.1) ⟨rfl, rfl⟩

end Go.Proofs.YtnbmcbkokaoapaaGreatDoor
/- Walks: what is left of a creature; what is dying. -/
namespace Go.Proofs.YtnbmcbkokaoapaaGreatDoor
open Go Go.AV Go.Proofs.Tryz
set_option maxRecDepth 100000
set_option maxHeartbeats 1000000
theorem right_parts {s : St} (h : checkF s = 0) : s.objs.length ≤ 400 ∧ rangesF s = true ∧ zonesF s = true ∧ ∀ o ∈ s.objs, formedF o = true := by
  unfold checkF at h
  split at h
  · cases h
  split at h
  · cases h
  split at h
  · cases h
  split at h
  · cases h
  rename_i a b c d
  refine ⟨by omega, by simpa using b, by simpa using c, fun o ho => ?_⟩
  simp only [List.any_eq_true, not_exists, not_and] at d
  have := d o ho; simpa using this
theorem right_ids {s : St} (h : zonesF s = true) {z : Nat} (hz : z < 11) : ∀ id ∈ s.lists z, 0 ≤ id ∧ id < s.objs.length ∧ objAt s id 3 = z ∧ standsF (objAt s id) z = true := by
  simp only [zonesF, Bool.and_eq_true, List.all_eq_true, List.mem_range] at h
  intro id hid
  have := h.1.1 z hz id hid
  simp only [standsAt, Bool.and_eq_true, beq_iff_eq] at this
  obtain ⟨⟨a, b⟩, c⟩ := this
  have : 0 ≤ id ∧ id < s.objs.length := by simpa [inN] using a
  exact ⟨this.1, this.2, b, c⟩
theorem right_obj {s : St} (h : rangesF s = true) {i : Nat} (hi : i < s.objs.length) (f : Nat) (hf : f < 18) : oLo s.objs.length f ≤ s.objs.getD i noObj f ∧ s.objs.getD i noObj f ≤ oHi s.objs.length f := by
  simp only [rangesF, Bool.and_eq_true] at h
  have := (List.all_eq_true.1 h.1.1) _ (getD_mem' (z := noObj) hi)
  have := (all_up.1 this) f hf
  simpa [inB] using this
theorem right_obd {s : St} (h : rangesF s = true) {i : Int} (hi : 0 ≤ i ∧ i < s.objs.length) : obd (s.objs.getD i.toNat noObj) :=
  have hl : i.toNat < s.objs.length := by omega
  ⟨right_obj h hl 7 (by decide), right_obj h hl 8 (by decide), right_obj h hl 9 (by decide)⟩
theorem creature_in {s : St} {i : Int} (h : creatureF s i = true) : 0 ≤ i ∧ i < s.objs.length := by
  simp only [creatureF, Bool.and_eq_true] at h; simpa [inN] using h.1.1
def ofF (s : St) (i : Int) : Sh × Int := if checkF s ≠ 0 then (⟨0, 0, 0⟩, checkF s) else if creatureF s i = false then (⟨0, 0, 0⟩, 4) else (evalF s i, 0)
theorem of_ok {s : St} {i : Int} (h : (ofF s i).2 = 0) : checkF s = 0 ∧ creatureF s i = true ∧ ofF s i = (evalF s i, 0) := by
  unfold ofF at *
  split at h
  · rename_i a; exact absurd h a
  split at h
  · cases h
  · rename_i a b; exact ⟨by omega, by simpa using b, by rw [if_neg a, if_neg b]⟩
def leftF (s : St) (i : Int) : Int × Int := if (ofF s i).2 ≠ 0 then (0, (ofF s i).2) else ((ofF s i).1.t - s.objs.getD i.toNat noObj 6, 0)
def dies (s : St) (id : Int) : Bool := (leftF s id).2 == 0 && decide ((leftF s id).1 ≤ 0)
def dyingUp (s : St) (i : Nat) : List Int := ((s.lists 8).take i).filter (dies s)
/-- What is dying. -/
def dyingF (s : St) : List Int := (s.lists 8).filter (dies s)
theorem dying_all {s : St} : dyingUp s (s.lists 8).length = dyingF s := by simp [dyingUp, dyingF]
theorem dying_step {s : St} {i : Nat} (h : i < (s.lists 8).length) : dyingUp s (i + 1) = dyingUp s i ++ if dies s ((s.lists 8).getD i 0) then [(s.lists 8).getD i 0] else [] := by
  rw [dyingUp, List.take_add_one, List.getElem?_eq_getElem h, getD_of h, Option.toList_some, List.filter_append, dyingUp]; simp only [List.filter_cons, List.filter_nil]
theorem dying_yes {s : St} {i : Nat} (h : i < (s.lists 8).length) (c : dies s ((s.lists 8).getD i 0) = true) : dyingUp s (i + 1) = dyingUp s i ++ [(s.lists 8).getD i 0] := by rw [dying_step h, if_pos c]
theorem dying_no {s : St} {i : Nat} (h : i < (s.lists 8).length) (c : dies s ((s.lists 8).getD i 0) = false) : dyingUp s (i + 1) = dyingUp s i := by rw [dying_step h, if_neg (by simp [-List.getD_eq_getElem?_getD, c]), List.append_nil]
theorem dying_le {s : St} {i : Nat} : (dyingUp s i).length ≤ (s.lists 8).length := Nat.le_trans (List.length_filter_le _ _) (by rw [List.length_take]; omega)
def quietF (s : St) : Bool := s.game 6 != 0 || (resultF s == 0 && ((dyingF s).length : Int) == 0)
def settledF (s : St) : Bool := checkF s == 0 && quietF s

theorem of_calls (s : St) (i : Int) (hb : s.objs.length ≤ 1000000) (hl : ∀ z, (s.lists z).length ≤ 1000000) (h : Hp) : ACalls prog G 64 [eState s, .int .i64 i] h fun r h' => r = .tup [.agg (cSh (ofF s i).1), eE (ofF s i).2] ∧ h' = h := by
  refine ACalls.enter func64 rfl ntmps64 results64 rfl ?_
  refine .seq <|
    .region <|
    .bx rfl rfl ?_
  refine AOps.s rfl rfl rfl (a_alloc rfl zeroValue104 rfl (fun id4 hid4 => ?_))
  refine .u rfl rfl rfl (q_as rfl (rfl : _ = V.inil)) ?_
  refine .nil <|
    .seq <|
    .seq <|
    .region <|
    .lw rfl isAgg29 sizeOf29 rfl rfl ?_
  refine .u rfl rfl rfl (QOp.call rfl call30 fun h' hl' => by exact check_calls _ (by assumption) (by assumption) h') ?_
  refine .u rfl rfl rfl (q_as rfl (rfl : _ = eErr _ _)) ?_
  refine .nil <|
    .seq <|
    .region ?_
  refine .u rfl rfl rfl (q_mv rfl (rfl : _ = eErr _ _)) ?_
  refine .u rfl rfl rfl (q_neerr underlying38 rfl rfl) ?_
  refine .nil ?_
  refine AW.cond rfl (fun c0 => ?_) (fun c0 => ?_)
  · skip
    refine .seq <|
      .region ?_
    refine .u rfl rfl rfl (q_buildS rfl zeroValue104 underlying104 (pl104 underlying104) rfl rfl) ?_
    refine .u rfl rfl rfl (q_mv rfl (rfl : _ = eErr _ _)) ?_
    refine .sw sizeOf104 rfl rfl rfl rfl ?_
    refine .u rfl rfl rfl (q_as rfl (rfl : _ = eErr _ _)) ?_
    refine .nil ?_
    refine AW.ret ?_
    exact retQ.mk' (Res.cellB1 isAgg104 sizeOf104 rfl (by exact bsb) rfl) (VLe.of_eq (by rw [show ofF s i = (⟨0, 0, 0⟩, checkF s) by rw [ofF, if_pos (by simpa using c0)]]; rfl)) (HLe.setBox hid4.1) ⟨rfl, rfl⟩
  · skip
    refine AW.skip ?_
    refine .seq <|
      .seq <|
      .region <|
      .lw rfl isAgg29 sizeOf29 rfl rfl <|
      .mI rfl rfl ?_
    refine .u rfl rfl rfl (QOp.call rfl call93 fun h' hl' => by exact creature_calls _ _ h') ?_
    refine .nt rfl rfl <|
      .nil ?_
    refine AW.cond rfl (fun c1 => ?_) (fun c1 => ?_)
    · skip
      refine .seq <|
        .region ?_
      refine .u rfl rfl rfl (q_buildS rfl zeroValue104 underlying104 (pl104 underlying104) rfl rfl) ?_
      refine .u rfl rfl rfl (q_iface rfl underlying62 rfl) ?_
      refine .sw sizeOf104 rfl rfl rfl rfl ?_
      refine .u rfl rfl rfl (q_as rfl (rfl : _ = V.iface _ _)) ?_
      refine .nil ?_
      refine AW.ret ?_
      exact retQ.mk' (Res.cellB1 isAgg104 sizeOf104 rfl (by exact bsb) rfl) (VLe.of_eq (by rw [show ofF s i = (⟨0, 0, 0⟩, 4) by rw [ofF, if_neg (by simpa using c0), if_pos (by simpa using c1)]]; rw [show eE 4 = V.iface _ _ from eErr_ne (by decide)]; rfl)) (HLe.setBox hid4.1) ⟨rfl, rfl⟩
    · have hc0 : checkF s = 0 := by simpa using c0
      have hcr : creatureF s i = true := by simpa using c1
      obtain ⟨p1, p2, p3, p4⟩ := right_parts hc0
      have hi := creature_in hcr
      refine AW.skip ?_
      refine .seq <|
        .region <|
        .lw rfl isAgg29 sizeOf29 rfl rfl <|
        .mI rfl rfl ?_
      refine .u rfl rfl rfl (QOp.call rfl call94 fun h' hl' => by exact eval_calls s i hi (fun id hid => ⟨(right_ids p3 (by decide) id hid).1, (right_ids p3 (by decide) id hid).2.1⟩) (hl 8) (right_obd p2 hi) h') ?_
      refine .sw sizeOf104 rfl rfl rfl rfl ?_
      refine .u rfl rfl rfl (q_as rfl (rfl : _ = V.inil)) ?_
      refine .nil ?_
      refine AW.ret ?_
      exact retQ.mk' (Res.cellB1 isAgg104 sizeOf104 rfl (by exact bsb) rfl) (VLe.of_eq (by rw [show ofF s i = (evalF s i, 0) by rw [ofF, if_neg (by simpa using c0), if_neg (by rw [hcr]; decide)]]; rw [show eE 0 = V.inil from eErr_zero _]; rfl)) (HLe.setBox hid4.1) ⟨rfl, rfl⟩

theorem left_calls (s : St) (i : Int) (hb : s.objs.length ≤ 1000000) (hl : ∀ z, (s.lists z).length ≤ 1000000) (h : Hp) : ACalls prog G 38 [eState s, .int .i64 i] h fun r h' => r = .tup [.int .i64 (leftF s i).1, eE (leftF s i).2] ∧ h' = h := by
  refine ACalls.enter func38 rfl ntmps38 results38 rfl ?_
  refine .seq <|
    .region <|
    .bx rfl rfl <|
    .aI rfl rfl ?_
  refine .u rfl rfl rfl (q_as rfl (rfl : _ = V.inil)) ?_
  refine .nil <|
    .seq <|
    .region <|
    .lw rfl isAgg29 sizeOf29 rfl rfl <|
    .mI rfl rfl ?_
  refine .u rfl rfl rfl (QOp.call rfl call64 fun h' hl' => by exact of_calls _ _ (by assumption) (by assumption) h') ?_
  refine .u rfl rfl rfl (q_mv rfl (rfl : _ = V.tup _)) ?_
  refine .u rfl rfl rfl (q_extract rfl rfl rfl) ?_
  refine .u rfl rfl rfl (q_extract rfl rfl rfl) ?_
  refine AOps.s rfl rfl rfl (a_alloc rfl zeroValue104 rfl (fun id6 hid6 => ?_))
  refine .sw sizeOf104 rfl rfl rfl rfl ?_
  refine AOps.done 6 rfl hid6 ?_
  refine .u rfl rfl rfl (q_as rfl (rfl : _ = eErr _ _)) ?_
  refine .nil <|
    .seq <|
    .seq <|
    .region ?_
  refine .u rfl rfl rfl (q_mv rfl (rfl : _ = eErr _ _)) ?_
  refine .u rfl rfl rfl (q_neerr underlying38 rfl rfl) ?_
  refine .nil ?_
  refine AW.cond rfl (fun c0 => ?_) (fun c0 => ?_)
  · skip
    refine .seq <|
      .region ?_
    refine .u rfl rfl rfl (q_mv rfl (rfl : _ = eErr _ _)) ?_
    refine .aI rfl rfl ?_
    refine .u rfl rfl rfl (q_as rfl (rfl : _ = eErr _ _)) ?_
    refine .nil ?_
    refine AW.ret ?_
    exact retQ.mk' (.two _ _) (VLe.of_eq (by rw [show leftF s i = (0, (ofF s i).2) by rw [leftF, if_pos (by simpa using c0)]]; rfl)) (HLe.refl _) ⟨rfl, rfl⟩
  · have hz0 : (ofF s i).2 = 0 := by simpa using c0
    obtain ⟨hc0, hcr, ho⟩ := of_ok hz0
    obtain ⟨p1, p2, p3, p4⟩ := right_parts hc0
    have hi := creature_in hcr
    have hsl : (staticsF s).length ≤ 10000000 := by rw [← stUp_all]; exact stUp_len (hl 8)
    have hbd := evUp_bd (right_obd p2 hi) _ (Nat.le_refl _)
    rw [evUp_all] at hbd
    obtain ⟨⟨q1, q2, q3, q4⟩, q5, q6, q7, q8⟩ := hbd
    have hd : 0 ≤ s.objs.getD i.toNat noObj 6 ∧ s.objs.getD i.toNat noObj 6 ≤ 1073741824 := right_obj p2 (by omega) 6 (by decide)
    have ht : (ofF s i).1.t = (evSum s i (staticsF s)).out.t + (evSum s i (staticsF s)).more.t := by rw [ho]; rfl
    refine AW.skip ?_
    refine .seq ?_
    refine AW.draw [] [] [(0, true), (1, true), (2, true), (3, true), (4, true), (5, true), (6, true), (7, true), (8, true), (9, true), (10, true)] mixed (by kernel_rfl) rfl (by kernel_rfl) ?_
    refine .q rfl rfl rfl rfl (q_fa_i rfl underlying104 rfl (by exact sizeOf3) (by decide) rfl (rfl : _ = List.drop 1 _)) ?_
    refine .q rfl rfl rfl rfl (q_load_i1 rfl isAgg3 rfl rfl) ?_
    refine .q rfl rfl rfl rfl (q_fa_i rfl underlying29 rfl (by exact sizeOf22) (by decide) rfl (rfl : _ = List.drop 0 _)) ?_
    refine .q rfl rfl rfl rfl (q_load_i1 rfl isAgg22 rfl rfl) ?_
    refine .q rfl rfl rfl rfl (q_mv rfl (rfl : _ = V.int _ _)) ?_
    refine .q rfl rfl rfl rfl (q_ia_s rfl underlying22 sizeOf49 rfl rfl hi.1 hi.2 (cObjs_elem' hi.1 hi.2)) ?_
    refine .q rfl rfl rfl rfl (q_ia_ai rfl underlying49 sizeOf3 rfl rfl (by decide) (by decide) rfl) ?_
    refine .q rfl rfl rfl rfl (q_load_i1 rfl isAgg3 rfl rfl) ?_
    refine .q rfl rfl rfl rfl (q_sub' rfl rfl rfl (by omega)) ?_
    refine .q rfl rfl rfl rfl (q_as rfl (rfl : _ = V.int _ _)) ?_
    refine .q rfl rfl rfl rfl (q_as rfl (rfl : _ = V.inil)) ?_
    refine AOrd.nil ?_
    refine AW.ret ?_
    exact retQ.mk' (.two _ _) (VLe.of_eq (by rw [show leftF s i = ((ofF s i).1.t - s.objs.getD i.toNat noObj 6, 0) by rw [leftF, if_neg (by simpa using c0)]]; rw [show eE 0 = V.inil from eErr_zero _]; rfl)) (HLe.refl _) ⟨rfl, rfl⟩

theorem dying_calls (s : St) (hb : s.objs.length ≤ 1000000) (hl : ∀ z, (s.lists z).length ≤ 1000000) (h : Hp) : ACalls prog G 20 [eState s] h fun r h' => r = eInts (dyingF s) ∧ h' = h := by
  have hl8 := hl 8
  refine ACalls.enter func20 rfl ntmps20 results20 rfl ?_
  refine .seq <|
    .region <|
    .bx rfl rfl <|
    .aN rfl rfl <|
    .nil <|
    .seq <|
    .region <|
    .aN rfl rfl <|
    .nil <|
    .seq <|
    .seq <|
    .region <|
    .fi rfl f29_1 rfl ?_
  refine .u rfl rfl rfl (q_ia_ai rfl underlying24 sizeOf23 rfl rfl (by decide) (by decide) rfl) ?_
  refine .li rfl isAgg23 rfl rfl <|
    .ln rfl underlying23 rfl <|
    .mI rfl rfl <|
    .nil <|
    .block ?_
  refine AW.loop (fun n T hh => ∃ (i : Nat) (v : V), i ≤ (s.lists 8).length ∧ n = (s.lists 8).length - i ∧ T = put (put (put (put (put (T0) 12 (V.int .i64 (i : Nat))) 11 (V.int .i64 (s.lists 8).length)) 10 (eInts (s.lists 8))) 3 (v)) 1 (V.iptr (cState s)) ∧ Go.AV.Acc h 1 (dyingUp s i).length (cInts (dyingUp s i)) v hh) ((s.lists 8).length) ?_ ?_
  · skip
    refine Wk.mk (TLe.put (d := 1) (VLe.refl _) (TLe.put (d := 3) (VLe.refl _) (TLe.put (d := 10) (VLe.refl _) (TLe.put (d := 11) (VLe.refl _) (TLe.put (d := 12) (by exact VLe.of_eq (congrArg (V.int .i64) (by first | rfl | omega))) (TLe.zero _)))))) (HLe.refl _) ⟨0, V.snil, Nat.zero_le _, rfl, rfl, by exact Go.AV.Acc.nil h 1⟩
  · skip
    rintro n T h' ⟨i, v, hi, rfl, rfl, hem⟩
    refine .seq <|
      .region <|
      .ql rfl rfl rfl <|
      .nil <|
      .seq ?_
    refine AW.cond rfl (fun c0 => ?_) (fun c0 => ?_)
    · have hlt : i < (s.lists 8).length := by have := of_decide_eq_true c0; omega
      have hul := dying_le (s := s) (i := i)
      refine AW.skip ?_
      refine .seq <|
        .block <|
        .seq <|
        .region ?_
      refine .u rfl rfl rfl (q_ia_s rfl underlying23 sizeOf3 rfl rfl (by omega) (by omega) (cInts_at hlt)) ?_
      refine .li rfl isAgg3 rfl rfl <|
        .aI rfl rfl <|
        .nil <|
        .seq <|
        .region <|
        .lw rfl isAgg29 sizeOf29 rfl rfl <|
        .mI rfl rfl ?_
      refine .u rfl rfl rfl (QOp.call rfl call38 fun h' hl' => by exact left_calls _ _ (by assumption) (by assumption) h') ?_
      refine .u rfl rfl rfl (q_mv rfl (rfl : _ = V.tup _)) ?_
      refine .u rfl rfl rfl (q_extract rfl rfl rfl) ?_
      refine .u rfl rfl rfl (q_extract rfl rfl rfl) ?_
      refine .aI rfl rfl ?_
      refine .u rfl rfl rfl (q_as rfl (rfl : _ = eErr _ _)) ?_
      refine .nil <|
        .seq <|
        .region ?_
      refine .u rfl rfl rfl (q_mv rfl (rfl : _ = eErr _ _)) ?_
      refine .u rfl rfl rfl (q_eqerr underlying38 rfl rfl) ?_
      refine .mB rfl rfl ?_
      refine .gt rfl rfl rfl (fun _ => tl0) (fun hc => q_mv rfl (rfl : _ = V.int _ _)) ?_
      refine .gt rfl rfl rfl (fun hc => tl1 25 (.opt hc)) (fun hc => q_le rfl rfl rfl) ?_
      refine .pt rfl rfl rfl rfl <|
        .nil ?_
      refine AW.cond rfl (fun c1 => ?_) (fun c1 => ?_)
      · skip
        refine .region ?_
        refine .u rfl rfl rfl (q_mv rfl (rfl : _ = _)) ?_
        refine .mI rfl rfl ?_
        refine .u rfl rfl rfl (q_buildSl rfl underlying23 sizeOf3 zeroValue3 rfl rfl rfl rfl rfl) ?_
        refine AOps.s rfl rfl rfl (a_append rfl underlying23 (i := t3) (by kernel_rfl) rfl (n := 1) (by' := 8) rfl rfl rfl rfl hem rfl rfl (by decide) (by omega) (by omega) rfl (fun v2 h2 acc => ?_))
        refine .u rfl rfl rfl (q_as rfl (rfl : _ = _)) ?_
        refine .nil <|
          .region <|
          .ad rfl rfl rfl (by omega) <|
          .mI rfl rfl <|
          .nil ?_
        refine Wk.mk (TLe.put (d := 1) (VLe.refl _) (TLe.put (d := 3) (VLe.refl _) (TLe.put (d := 10) (VLe.refl _) (TLe.put (d := 11) (VLe.refl _) (TLe.put (d := 12) (by exact VLe.of_eq (congrArg (V.int .i64) (by first | rfl | omega))) (TLe.zero _)))))) (HLe.refl _) ⟨_, ?_, i + 1, _, ?_, rfl, rfl, by first | (rw [dying_yes hlt (by simpa [dies] using c1), cInts_app, List.length_append]; exact acc) | (rw [dying_no hlt (by simpa [dies] using c1)]; exact hem)⟩
        · omega
        · omega
      · skip
        refine AW.skip ?_
        refine .region <|
          .ad rfl rfl rfl (by omega) <|
          .mI rfl rfl <|
          .nil ?_
        refine Wk.mk (TLe.put (d := 1) (VLe.refl _) (TLe.put (d := 3) (VLe.refl _) (TLe.put (d := 10) (VLe.refl _) (TLe.put (d := 11) (VLe.refl _) (TLe.put (d := 12) (by exact VLe.of_eq (congrArg (V.int .i64) (by first | rfl | omega))) (TLe.zero _)))))) (HLe.refl _) ⟨_, ?_, i + 1, _, ?_, rfl, rfl, by first | (rw [dying_yes hlt (by simpa [dies] using c1), cInts_app, List.length_append]; exact acc) | (rw [dying_no hlt (by simpa [dies] using c1)]; exact hem)⟩
        · omega
        · omega
    · obtain rfl : i = (s.lists 8).length := by have := of_decide_eq_false c0; omega
      rw [dying_all] at hem
      refine AW.exit ?_
      refine .seq <|
        .region ?_
      refine .u rfl rfl rfl (q_mv rfl (rfl : _ = _)) ?_
      refine .u rfl rfl rfl (q_as rfl (rfl : _ = _)) ?_
      refine .nil ?_
      refine AW.ret ?_
      exact retQ.mk' (.one _) hem.vle hem.hle ⟨rfl, rfl⟩

theorem quiet_calls (s : St) (hb : s.objs.length ≤ 1000000) (hl : ∀ z, (s.lists z).length ≤ 1000000) (h : Hp) : ACalls prog G 33 [eState s] h fun r h' => r = .bool (quietF s) ∧ h' = h := by
  refine ACalls.enter func33 rfl ntmps33 results33 rfl ?_
  refine .seq <|
    .region <|
    .bx rfl rfl <|
    .aB rfl rfl <|
    .nil <|
    .seq <|
    .region <|
    .fi rfl f29_30 rfl ?_
  refine .u rfl rfl rfl (q_ia_ai rfl underlying27 sizeOf3 rfl rfl (by decide) (by decide) rfl) ?_
  refine .li rfl isAgg3 rfl rfl <|
    .qn rfl rfl rfl <|
    .mB rfl rfl ?_
  refine .gf rfl rfl rfl (fun _ => tl0) (fun hc => q_load_iW rfl isAgg29 sizeOf29 rfl (by rfl)) ?_
  refine .gf rfl rfl rfl (fun hc => tl1 8 (.opt hc)) (fun hc => QOp.call rfl (by exact call55) fun h' hl' => by exact result_calls _ h') ?_
  refine .gf rfl rfl rfl (fun hc => tl1 9 (.opt hc)) (fun hc => q_eq rfl rfl rfl) ?_
  refine .gf rfl rfl rfl (fun hc => tl1 10 (.opt hc)) (fun hc => q_mv rfl (rfl : _ = V.bool _)) ?_
  refine AOps.g (wanted_to rfl rfl) rfl rfl (fun _ => tl0) (fun hc => q_load_iW rfl isAgg29 sizeOf29 rfl (by rfl)) ?_
  refine AOps.g (wanted_to rfl rfl) rfl rfl (fun hc => tl1 12 (.opt hc)) (fun hc => QOp.call rfl (by exact call20) fun h' hl' => by exact dying_calls _ (by assumption) (by assumption) h') ?_
  refine AOps.g (wanted_to rfl rfl) rfl rfl (fun hc => tl1 13 (.opt hc)) (fun hc => q_len rfl underlying23 rfl) ?_
  refine AOps.g (wanted_to rfl rfl) rfl rfl (fun hc => tl1 14 (.opt hc)) (fun hc => q_eq rfl rfl rfl) ?_
  refine .gf rfl rfl rfl (fun hc => tl1 11 (.opt hc)) (fun hc => q_pickg rfl rfl (fun hp => by first | exact VLe.opt hp | exact VLe.opt (by rw [hp]; rfl) | exact VLe.opt (by simp_all)) (fun hp => by exact VLe.refl _)) ?_
  refine .pf rfl rfl rfl rfl <|
    .aB rfl rfl <|
    .nil ?_
  refine AW.ret ?_
  exact retQ.mk' (.one _) (VLe.of_eq (congrArg V.bool (by rw [quietF]; cases h1 : s.game 6 == 0 <;> cases h2 : resultF s == 0 <;> simp_all))) (HLe.refl _) ⟨rfl, rfl⟩

theorem settled_calls (s : St) (hb : s.objs.length ≤ 1000000) (hl : ∀ z, (s.lists z).length ≤ 1000000) (h : Hp) : ACalls prog G 15 [eState s] h fun r h' => r = .bool (settledF s) ∧ h' = h := by
  refine ACalls.enter func15 rfl ntmps15 results15 rfl ?_
  refine .seq <|
    .region <|
    .bx rfl rfl <|
    .aB rfl rfl <|
    .nil <|
    .seq <|
    .region <|
    .lw rfl isAgg29 sizeOf29 rfl rfl ?_
  refine .u rfl rfl rfl (QOp.call rfl call30 fun h' hl' => by exact check_calls _ (by assumption) (by assumption) h') ?_
  refine .u rfl rfl rfl (q_eqerr underlying38 rfl rfl) ?_
  refine .mB rfl rfl ?_
  refine .gt rfl rfl rfl (fun _ => tl0) (fun hc => q_load_iW rfl isAgg29 sizeOf29 rfl (by rfl)) ?_
  refine .gt rfl rfl rfl (fun hc => tl1 7 (.opt hc)) (fun hc => QOp.call rfl (by exact call33) fun h' hl' => by exact quiet_calls _ (by assumption) (by assumption) h') ?_
  refine .pt rfl rfl rfl rfl <|
    .aB rfl rfl <|
    .nil ?_
  refine AW.ret ?_
  exact retQ.mk' (.one _) (VLe.of_eq (congrArg V.bool (by rw [settledF]; cases h1 : checkF s == 0 <;> simp_all))) (HLe.refl _) ⟨rfl, rfl⟩

end Go.Proofs.YtnbmcbkokaoapaaGreatDoor
/- Walks: what follows of itself: rounds. -/
namespace Go.Proofs.YtnbmcbkokaoapaaGreatDoor
open Go Go.AV Go.Proofs.Tryz
set_option maxRecDepth 100000
set_option maxHeartbeats 1000000
/-- What holds of an emitter that only puts and sets. -/
structure EmP (m : Em) : Prop where
  inv : EmI m
  pend : m.pend.length ≤ 4 * m.evs.length
theorem gameF_same {m : Em} {f n : Int} : Same m (m.gameF f n) := by
  unfold Em.gameF; split
  · exact .rfl'
  · split
    · exact doL_same (by simp)
    · exact set_same (by simp)
theorem gameF_p {m : Em} {f n : Int} (h : EmP m) : EmP (m.gameF f n) := by
  have := gameF_same (m := m) (f := f) (n := n)
  exact ⟨gameF_inv h.inv, by rw [this.pend]; have := this.evs; have := h.pend; omega⟩
theorem putF_p {m : Em} {i b : Int} (h : EmP m) : EmP (m.putF i b) := ⟨putF_inv h.inv, putF_evs.2.2.1 h.pend⟩
/-- Some are put to the grave. -/
def Em.putL (m : Em) (l : List Int) : Em := l.foldl (fun m i => m.putF i 4) m
theorem putL_p {m : Em} {l : List Int} (h : EmP m) : EmP (m.putL l) := by
  induction l generalizing m with
  | nil => exact h
  | cons i l ih => exact ih (m := m.putF i 4) (putF_p h)
theorem putL_evs {m : Em} {l : List Int} : m.evs.length ≤ (m.putL l).evs.length ∧ ((m.putL l).err = 0 → m.err = 0 ∧ m.evs.length + l.length ≤ (m.putL l).evs.length) := by
  induction l generalizing m with
  | nil => exact ⟨Nat.le_refl _, fun e => ⟨e, Nat.le_refl _⟩⟩
  | cons i l ih =>
    have h1 := ih (m := m.putF i 4)
    obtain ⟨a, b, _⟩ := putF_evs (m := m) (i := i) (base := 4)
    refine ⟨Nat.le_trans a h1.1, fun e => ?_⟩
    obtain ⟨c, d⟩ := h1.2 e
    obtain ⟨c', d'⟩ := b c
    refine ⟨c', ?_⟩
    show m.evs.length + (l.length + 1) ≤ ((m.putF i 4).putL l).evs.length
    omega
theorem putL_next {m : Em} {l : List Int} {k : Nat} (h : k < l.length) : m.putL (l.take (k + 1)) = (m.putL (l.take k)).putF (l.getD k 0) 4 := by
  rw [Em.putL, Em.putL, List.take_add_one, List.getElem?_eq_getElem h, getD_of h, List.foldl_append]; rfl
/-- One round. -/
def roundF (m : Em) : Em := if resultF m.state ≠ 0 then m.gameF 6 (resultF m.state) else m.putL (dyingF m.state)
theorem round_p {m : Em} (h : EmP m) : EmP (roundF m) := by
  unfold roundF; split
  · exact gameF_p h
  · exact putL_p h
theorem EmI.st {m : Em} (h : EmI m) : m.err = 0 → m.now.objs.length ≤ 1000000 ∧ ∀ z, (m.now.lists z).length ≤ 1000000 := fun e =>
  ⟨by have := (h.sz e).objs; omega, fun z => by have := (h.sz e).lists z; omega⟩
theorem EmI.st2 {m : Em} (h : EmI m) : m.state.objs.length ≤ 1000000 ∧ ∀ z, (m.state.lists z).length ≤ 1000000 := by
  unfold Em.state; split
  · rename_i e; exact h.st e
  · exact ⟨by simp [noSt], fun z => by simp [noSt]⟩
theorem EmI.box {h0 : Hp} {id : Nat} {m : Em} {h : Hp} (e : EmAt h0 id m h) : ∃ ve vp, h.box id = some (emCells m ve vp) := by
  obtain ⟨ve, vp, _, rfl⟩ := e; exact ⟨ve, vp, Hp.box_setBox _ _ _⟩
theorem gameF_more {m : Em} {n : Int} (h : m.err = 0) (hne : m.now.game 6 ≠ n) (e : (m.gameF 6 n).err = 0) : m.evs.length + 1 ≤ (m.gameF 6 n).evs.length := by
  unfold Em.gameF at *
  rw [if_neg (by simpa using h)] at e ⊢
  split at e
  · rename_i g; rw [if_pos g]; have := doL_more e; omega
  · rename_i g; rw [if_neg g]
    unfold Em.set at *
    rw [if_neg (show ¬ m.now.game (Int.toNat 6) = n from hne)] at e ⊢
    have := doL_more e; omega
theorem round_more {m : Em} (h : m.err = 0) (hq : quietF m.state = false) (e : (roundF m).err = 0) : m.evs.length + 1 ≤ (roundF m).evs.length := by
  have hs : m.state = m.now := by unfold Em.state; rw [if_pos h]
  simp only [quietF, Bool.or_eq_false_iff, bne_eq_false_iff_eq, Bool.and_eq_false_iff, beq_eq_false_iff_ne] at hq
  unfold roundF at *
  split at e
  · rename_i g; rw [if_pos g]
    refine gameF_more h ?_ e
    rw [hs] at hq; rw [hq.1]; exact Ne.symm g
  · rename_i g; rw [if_neg g]
    have := (putL_evs.2 e).2
    have hd : (dyingF m.state).length ≠ 0 := by
      rcases hq.2 with a | a
      · exact absurd a g
      · omega
    omega
theorem round_evs {m : Em} : m.evs.length ≤ (roundF m).evs.length ∧ ((roundF m).err = 0 → m.err = 0) := by
  unfold roundF; split
  · exact ⟨gameF_same.evs, gameF_same.err⟩
  · exact ⟨putL_evs.1, fun e => (putL_evs.2 e).1⟩
/-- The rounds, from one emitter and a count to another emitter and count. -/
inductive Runs (fuel : Int) : Em → Int → Em → Int → Prop
  | quiet {m n} : (m.err = 0 → quietF m.state = true) → Runs fuel m n m n
  | out {m n} : m.err = 0 → quietF m.state = false → fuel ≤ n → Runs fuel m n (m.gameF 6 3) n
  | more {m n m' n'} : m.err = 0 → quietF m.state = false → n < fuel → Runs fuel (roundF m) (n + 1) m' n' → Runs fuel m n m' n'
theorem run_yes1 {e : Int} {q : Bool} (c : (bif e == 0 then !q else false) = true) : e = 0 := by
  cases h : e == 0
  · rw [h] at c; cases c
  · simpa using h
theorem run_yes2 {e : Int} {q : Bool} (c : (bif e == 0 then !q else false) = true) : q = false := by
  cases h : e == 0
  · rw [h] at c; cases c
  · rw [h] at c; simpa using c
theorem run_no {e : Int} {q : Bool} (c : (bif e == 0 then !q else false) = false) (h : e = 0) : q = true := by
  subst h; simpa using c
def runN (m : Em) (n : Int) : Int := if m.err = 0 then n else 0

theorem round_calls {h0 : Hp} {id : Nat} {m : Em} {h : Hp} (he : EmAt h0 id m h) (hP : EmP m) : ACalls prog G 35 [.ptr id 0] h fun r h' => r = .tup [] ∧ EmAt h0 id (roundF m) h' := by
  have hI := hP.inv
  have hst := hI.st2
  obtain ⟨ve, vp, hbx⟩ := EmI.box he
  refine ACalls.enter func35 rfl ntmps35 results35 rfl ?_
  refine .seq <|
    .region <|
    .mP rfl rfl ?_
  refine .u rfl rfl rfl (QOp.call rfl call12 fun h' hl' => by exact state_calls (hl'.box _ _ hbx) hI.st) ?_
  refine AOps.s rfl rfl rfl (a_alloc rfl zeroValue29 rfl (fun id2 hid2 => ?_))
  refine .sw sizeOf29 rfl rfl rfl rfl ?_
  refine AOps.done 2 rfl hid2 ?_
  refine .nil <|
    .seq <|
    .seq <|
    .region <|
    .lw rfl isAgg29 sizeOf29 rfl rfl ?_
  refine .u rfl rfl rfl (QOp.call rfl call55 fun h' hl' => by exact result_calls _ h') ?_
  refine .aI rfl rfl <|
    .nil <|
    .seq <|
    .region <|
    .mI rfl rfl <|
    .qn rfl rfl rfl <|
    .nil ?_
  refine AW.cond rfl (fun c0 => ?_) (fun c0 => ?_)
  · skip
    refine .seq <|
      .region <|
      .mP rfl rfl <|
      .mI rfl rfl ?_
    refine AOps.s rfl rfl rfl ((AStep.call rfl (by exact call34) (game'_calls 6 (resultF m.state) he hI)).mono ?_)
    rintro x9 h9 ⟨rfl, he9⟩
    refine .nil ?_
    refine AW.ret ?_
    exact retQ.mk .none ⟨rfl, by rw [roundF, if_pos (by simpa using c0)]; exact he9⟩
  · skip
    refine AW.skip ?_
    refine .seq <|
      .region <|
      .lw rfl isAgg29 sizeOf29 rfl rfl ?_
    refine .u rfl rfl rfl (QOp.call rfl call20 fun h' hl' => by exact dying_calls _ hst.1 hst.2 h') ?_
    refine .ln rfl underlying23 rfl <|
      .mI rfl rfl <|
      .nil <|
      .block ?_
    refine AW.loop (fun n T hh => ∃ (k : Nat) , k ≤ (dyingF m.state).length ∧ n = (dyingF m.state).length - k ∧ T = put (put (put (put (T0) 18 (V.int .i64 (k : Nat))) 17 (V.int .i64 (dyingF m.state).length)) 16 (eInts (dyingF m.state))) 0 (V.ptr id 0) ∧ EmAt h0 id (m.putL ((dyingF m.state).take k)) hh) ((dyingF m.state).length) ?_ ?_
    · skip
      refine Wk.mk (TLe.put (d := 0) (VLe.refl _) (TLe.put (d := 16) (VLe.refl _) (TLe.put (d := 17) (VLe.refl _) (TLe.put (d := 18) (by exact VLe.of_eq (congrArg (V.int .i64) (by first | rfl | omega))) (TLe.zero _))))) (HLe.refl _) ⟨0, Nat.zero_le _, rfl, rfl, by rw [List.take_zero]; exact he⟩
    · skip
      rintro n T h' ⟨k, hk, rfl, rfl, hem⟩
      refine .seq <|
        .region <|
        .ql rfl rfl rfl <|
        .nil <|
        .seq ?_
      refine AW.cond rfl (fun c1 => ?_) (fun c1 => ?_)
      · have hltk : k < (dyingF m.state).length := by have := of_decide_eq_true c1; omega
        have hdl : (dyingF m.state).length ≤ 1000000 := Nat.le_trans (by rw [← dying_all]; exact dying_le) (hst.2 8)
        have hPk : EmP (m.putL ((dyingF m.state).take k)) := putL_p hP
        have hpk : (m.putL ((dyingF m.state).take k)).pend.length ≤ 1000000 := by have := hPk.pend; have := hPk.inv.evs; omega
        refine AW.skip ?_
        refine .seq <|
          .block <|
          .seq <|
          .region ?_
        refine .u rfl rfl rfl (q_ia_s rfl underlying23 sizeOf3 rfl rfl (by omega) (by omega) (cInts_at hltk)) ?_
        refine .li rfl isAgg3 rfl rfl <|
          .aI rfl rfl <|
          .nil <|
          .region <|
          .mP rfl rfl <|
          .mI rfl rfl ?_
        refine AOps.s rfl rfl rfl ((AStep.call rfl (by exact call59) (putF_calls ((dyingF m.state).getD k 0) 4 hem hPk.inv hpk)).mono ?_)
        rintro x9 h9 ⟨rfl, he9⟩
        refine .nil <|
          .region <|
          .ad rfl rfl rfl (by omega) <|
          .mI rfl rfl <|
          .nil ?_
        refine Wk.mk (TLe.put (d := 0) (VLe.refl _) (TLe.put (d := 16) (VLe.refl _) (TLe.put (d := 17) (VLe.refl _) (TLe.put (d := 18) (by exact VLe.of_eq (congrArg (V.int .i64) (by first | rfl | omega))) (TLe.zero _))))) (HLe.refl _) ⟨_, ?_, k + 1, ?_, rfl, rfl, by rw [putL_next hltk]; exact he9⟩
        · omega
        · omega
      · obtain rfl : k = (dyingF m.state).length := by have := of_decide_eq_false c1; omega
        refine AW.exit ?_
        rw [List.take_length] at hem
        exact retQ.mk .none ⟨rfl, by rw [roundF, if_neg (by simpa using c0)]; exact hem⟩

theorem run_calls (fuel : Int) {h0 : Hp} {id : Nat} {m : Em} {h : Hp} (he : EmAt h0 id m h) (hP : EmP m) : ACalls prog G 11 [.ptr id 0, .int .i64 fuel] h fun r h' => ∃ m2 n2, Runs fuel m 0 m2 n2 ∧ EmP m2 ∧ r = .int .i64 (runN m2 n2) ∧ EmAt h0 id m2 h' := by
  refine ACalls.enter func11 rfl ntmps11 results11 rfl ?_
  refine .seq <|
    .region <|
    .aI rfl rfl <|
    .nil <|
    .seq <|
    .region <|
    .aI rfl rfl <|
    .nil <|
    .seq <|
    .block ?_
  refine AW.loop (fun n T hh => ∃ (k : Int) (m1 : Em), T = put (put (put (put T0 0 (V.ptr id 0)) 1 (V.int .i64 fuel)) 4 (V.int .i64 0)) 5 (V.int .i64 k) ∧ EmAt h0 id m1 hh ∧ EmP m1 ∧ 0 ≤ k ∧ (m1.err = 0 → k ≤ m1.evs.length) ∧ k ≤ 65537 ∧ n = (if m1.err = 0 then 65537 - m1.evs.length else 0) ∧ ∀ m2 n2, Runs fuel m1 k m2 n2 → Runs fuel m 0 m2 n2) ((if m.err = 0 then 65537 - m.evs.length else 0)) ?_ ?_
  · skip
    refine Wk.mk (TLe.put (d := 5) (VLe.refl _) (TLe.put (d := 4) (VLe.refl _) (TLe.put (d := 1) (VLe.refl _) (TLe.put (d := 0) (VLe.refl _) (TLe.zero _))))) (HLe.refl _) ⟨0, m, rfl, he, hP, by omega, fun _ => by omega, by omega, rfl, fun _ _ h => h⟩
  · skip
    rintro n T h' ⟨k, m1, rfl, he1, hP1, hk0, hk1, hk2, rfl, hR⟩
    obtain ⟨ve1, vp1, hb1⟩ := EmI.box he1
    refine .seq <|
      .seq <|
      .region <|
      .mP rfl rfl ?_
    refine .u rfl rfl rfl (QOp.call rfl call13 fun h' hl' => by exact err_calls (hl'.box _ _ hb1)) ?_
    refine .u rfl rfl rfl (q_eqerr underlying38 rfl rfl) ?_
    refine .mB rfl rfl ?_
    refine .gt rfl rfl rfl (fun _ => tl0) (fun hc => q_mv rfl (rfl : _ = V.ptr _ _)) ?_
    refine .gt rfl rfl rfl (fun hc => tl1 10 (.opt hc)) (fun hc => QOp.call rfl (by exact call12) fun h' hl' => by exact state_calls (hl'.box _ _ hb1) hP1.inv.st) ?_
    refine .gt rfl rfl rfl (fun hc => tl1 11 (.opt hc)) (fun hc => QOp.call rfl (by exact call33) fun h' hl' => by exact quiet_calls _ hP1.inv.st2.1 hP1.inv.st2.2 h') ?_
    refine .gt rfl rfl rfl (fun hc => tl1 12 (.opt hc)) (fun hc => q_not rfl rfl) ?_
    refine .pt rfl rfl rfl rfl <|
      .nil ?_
    refine AW.cond rfl (fun c0 => ?_) (fun c0 => ?_)
    · have hz : m1.err = 0 := run_yes1 c0
      have hq : quietF m1.state = false := run_yes2 c0
      have hev := hP1.inv.evs
      have hk3 := hk1 hz
      refine AW.skip ?_
      refine .block <|
        .seq <|
        .seq <|
        .region <|
        .mI rfl rfl <|
        .mI rfl rfl <|
        .qg rfl rfl rfl <|
        .nil ?_
      refine AW.cond rfl (fun c1 => ?_) (fun c1 => ?_)
      · skip
        refine .seq <|
          .region <|
          .mP rfl rfl ?_
        refine AOps.s rfl rfl rfl ((AStep.call rfl (by exact call34) (game'_calls 6 3 he1 hP1.inv)).mono ?_)
        rintro x9 h9 ⟨rfl, he9⟩
        obtain ⟨m2, hfin, hP2, he2⟩ : ∃ m2, Runs fuel m 0 m2 k ∧ EmP m2 ∧ EmAt h0 id m2 h9 := ⟨_, hR _ _ (.out hz hq (of_decide_eq_true c1)), gameF_p hP1, he9⟩
        obtain ⟨ve7, vp7, hb7⟩ := EmI.box he2
        refine .nil ?_
        refine AW.exit ?_
        refine .seq <|
          .seq <|
          .region <|
          .mP rfl rfl ?_
        refine .u rfl rfl rfl (QOp.call rfl call13 fun h' hl' => by exact err_calls (hl'.box _ _ hb7)) ?_
        refine .u rfl rfl rfl (q_neerr underlying38 rfl rfl) ?_
        refine .nil ?_
        refine AW.cond rfl (fun c2 => ?_) (fun c2 => ?_)
        · skip
          refine .seq <|
            .region <|
            .aI rfl rfl <|
            .nil ?_
          refine AW.ret ?_
          exact retQ.mk (.one _) ⟨m2, k, hfin, hP2, by rw [runN, if_neg (by simpa using c2)]; rfl, he2⟩
        · skip
          refine AW.skip ?_
          refine .seq <|
            .region <|
            .mI rfl rfl <|
            .aI rfl rfl <|
            .nil ?_
          refine AW.ret ?_
          exact retQ.mk (.one _) ⟨m2, k, hfin, hP2, by rw [runN, if_pos (by simpa using c2)]; rfl, he2⟩
      · skip
        refine AW.skip ?_
        refine .seq <|
          .region <|
          .mP rfl rfl ?_
        refine AOps.s rfl rfl rfl ((AStep.call rfl (by exact call35) (round_calls he1 hP1)).mono ?_)
        rintro x9 h9 ⟨rfl, he9⟩
        refine .nil <|
          .region <|
          .mI rfl rfl <|
          .ad rfl rfl rfl (by omega) <|
          .aI rfl rfl <|
          .nil ?_
        have hmo := round_more hz hq
        have hev2 := (round_p hP1).inv.evs
        refine Wk.mk (TLe.put (d := 5) (VLe.refl _) (TLe.put (d := 4) (VLe.refl _) (TLe.put (d := 1) (VLe.refl _) (TLe.put (d := 0) (VLe.refl _) (TLe.zero _))))) (HLe.refl _) ⟨_, ?_, k + 1, roundF m1, rfl, he9, round_p hP1, by omega, fun e => by have := hmo e; omega, by omega, rfl, fun m2 n2 hr => hR _ _ (.more hz hq (by have := of_decide_eq_false c1; omega) hr)⟩
        rw [if_pos hz]
        split
        · rename_i e; have := hmo e; omega
        · omega
    · obtain ⟨m2, hfin, hP2, he2⟩ : ∃ m2, Runs fuel m 0 m2 k ∧ EmP m2 ∧ EmAt h0 id m2 h' := ⟨_, hR _ _ (.quiet (run_no c0)), hP1, he1⟩
      obtain ⟨ve7, vp7, hb7⟩ := EmI.box he2
      refine AW.exit ?_
      refine .seq <|
        .seq <|
        .region <|
        .mP rfl rfl ?_
      refine .u rfl rfl rfl (QOp.call rfl call13 fun h' hl' => by exact err_calls (hl'.box _ _ hb7)) ?_
      refine .u rfl rfl rfl (q_neerr underlying38 rfl rfl) ?_
      refine .nil ?_
      refine AW.cond rfl (fun c3 => ?_) (fun c3 => ?_)
      · skip
        refine .seq <|
          .region <|
          .aI rfl rfl <|
          .nil ?_
        refine AW.ret ?_
        exact retQ.mk (.one _) ⟨m2, k, hfin, hP2, by rw [runN, if_neg (by simpa using c3)]; rfl, he2⟩
      · skip
        refine AW.skip ?_
        refine .seq <|
          .region <|
          .mI rfl rfl <|
          .aI rfl rfl <|
          .nil ?_
        refine AW.ret ?_
        exact retQ.mk (.one _) ⟨m2, k, hfin, hP2, by rw [runN, if_pos (by simpa using c3)]; rfl, he2⟩

end Go.Proofs.YtnbmcbkokaoapaaGreatDoor
/- Walks: the document's answer to whether a state is right. -/
namespace Go.Proofs.YtnbmcbkokaoapaaGreatDoor
open Go Go.AV Go.Proofs.Tryz
set_option maxRecDepth 100000
set_option maxHeartbeats 1000000
/-- Nothing stands in a list that isn't. -/
def Few (s : St) : Prop := ∀ z, 11 ≤ z → s.lists z = []
def refPl (p : Nat → Int) : Bool := (inB (p 0) (-1073741824) 1073741824 && inB (p 7) 0 1 && inB (p 8) 0 1) && (List.range 6).all fun k => inB (p (k + 1)) 0 1000
def refGame (g : Nat → Int) : Bool := inB (g 0) 0 1073741824 && inB (g 1) 0 1 && inB (g 2) 0 7 && inB (g 3) 0 1 && inB (g 4) 0 1 && inB (g 5) 0 4096 && inB (g 6) 0 3
def refRanges (s : St) : Bool := (s.objs.all fun o => refObject o s.objs.length) && (List.range 2).all (fun p => refPl (s.pl p)) && refGame s.game
theorem plRow_at1 {g : Nat → Int} {k : Nat} (h : k < 6) : ((plRow g).drop (((k : Int) + 1).toNat * 1))[0]? = some (.int .i64 (g (k + 1))) := by
  have := plRow_at (g := g) (k := k + 1) (by omega)
  have e : (((k + 1 : Nat) : Int)) = (k : Int) + 1 := by omega
  rwa [e] at this
theorem rr_obj {s : St} {i : Nat} (hi : i < s.objs.length) (h : refObject (s.objs.getD i noObj) s.objs.length = false) : refRanges s = false := by
  have : (s.objs.all fun o => refObject o s.objs.length) = false := by
    cases e : (s.objs.all fun o => refObject o s.objs.length) with
    | false => rfl
    | true => rw [objs_all.1 e i hi] at h; cases h
  simp only [refRanges, this, Bool.false_and]
theorem rr_pl {s : St} {p : Nat} (hp : p < 2) (h : refPl (s.pl p) = false) : refRanges s = false := by
  have : (List.range 2).all (fun p => refPl (s.pl p)) = false := all_bad hp h
  simp only [refRanges, this, Bool.and_false, Bool.false_and]
theorem rp_head {p : Nat → Int} (h : (inB (p 0) (-1073741824) 1073741824 = false ∨ inB (p 7) 0 1 = false) ∨ inB (p 8) 0 1 = false) : refPl p = false := by
  rcases h with (h | h) | h <;> simp [refPl, h]
theorem rp_field {p : Nat → Int} {k : Nat} (hk : k < 6) (h : inB (p (k + 1)) 0 1000 = false) : refPl p = false := by
  have : (List.range 6).all (fun k => inB (p (k + 1)) 0 1000) = false := all_bad hk h
  simp only [refPl, this, Bool.and_false]

theorem refRanges_calls (s : St) (hb : s.objs.length ≤ 1000000) (h : Hp) : ACalls prog G 25 [eState s] h fun r h' => r = .bool (refRanges s) ∧ h' = h := by
  refine ACalls.enter func25 rfl ntmps25 results25 rfl ?_
  refine .seq <|
    .region <|
    .bx rfl rfl <|
    .aB rfl rfl <|
    .nil <|
    .seq <|
    .seq <|
    .region <|
    .fi rfl f29_0 rfl <|
    .li rfl isAgg22 rfl rfl <|
    .ln rfl underlying22 rfl <|
    .mI rfl rfl <|
    .nil <|
    .block ?_
  refine AW.loop (fun n T hh => ∃ (i : Nat) , i ≤ s.objs.length ∧ n = s.objs.length - i ∧ T = put (put (put (put (T0) 12 (V.int .i64 (i : Nat))) 11 (V.int .i64 s.objs.length)) 10 (eObjs s.objs)) 1 (V.iptr (cState s)) ∧ hh = h ∧ ∀ j, j < i → refObject (s.objs.getD j noObj) s.objs.length = true) (s.objs.length) ?_ ?_
  · skip
    refine Wk.mk (TLe.put (d := 1) (VLe.refl _) (TLe.put (d := 10) (VLe.refl _) (TLe.put (d := 11) (VLe.refl _) (TLe.put (d := 12) (by exact VLe.of_eq (congrArg (V.int .i64) (by first | rfl | omega))) (TLe.zero _))))) (HLe.refl _) ⟨0, Nat.zero_le _, rfl, rfl, rfl, fun j hj => by omega⟩
  · skip
    rintro n T h' ⟨i, hi, rfl, rfl, rfl, hj⟩
    refine .seq <|
      .region <|
      .ql rfl rfl rfl <|
      .nil <|
      .seq ?_
    refine AW.cond rfl (fun c0 => ?_) (fun c0 => ?_)
    · have hlt : i < s.objs.length := by have := of_decide_eq_true c0; omega
      refine AW.skip ?_
      refine .seq <|
        .block <|
        .seq <|
        .region ?_
      refine .u rfl rfl rfl (q_ia_s rfl underlying22 sizeOf49 rfl rfl (by omega) (by omega) (cObjs_elem' (by omega) (by omega))) ?_
      refine .lw rfl isAgg49 sizeOf49 rfl rfl ?_
      refine AOps.s rfl rfl rfl (a_alloc rfl zeroValue49 rfl (fun id4 hid4 => ?_))
      refine .sw sizeOf49 rfl rfl rfl rfl ?_
      refine AOps.done 4 rfl hid4 ?_
      refine .nil <|
        .seq <|
        .region <|
        .lw rfl isAgg49 sizeOf49 rfl rfl <|
        .fi rfl f29_0 rfl <|
        .li rfl isAgg22 rfl rfl <|
        .ln rfl underlying22 rfl ?_
      refine .u rfl rfl rfl (QOp.call rfl call47 fun h' hl' => by exact refObject_calls _ _ h') ?_
      refine .nt rfl rfl <|
        .nil ?_
      refine AW.cond rfl (fun c1 => ?_) (fun c1 => ?_)
      · skip
        refine .seq <|
          .region <|
          .aB rfl rfl <|
          .nil ?_
        refine AW.ret ?_
        exact retQ.mk' (.one _) (VLe.of_eq (congrArg V.bool (by rw [rr_obj hlt (by simpa using c1)]))) (HLe.refl _) ⟨rfl, rfl⟩
      · skip
        refine AW.skip ?_
        refine .region <|
          .ad rfl rfl rfl (by omega) <|
          .mI rfl rfl <|
          .nil ?_
        refine Wk.mk (TLe.put (d := 1) (VLe.refl _) (TLe.put (d := 10) (VLe.refl _) (TLe.put (d := 11) (VLe.refl _) (TLe.put (d := 12) (by exact VLe.of_eq (congrArg (V.int .i64) (by first | rfl | omega))) (TLe.zero _))))) (HLe.refl _) ⟨_, ?_, i + 1, ?_, rfl, rfl, rfl, all_step (p := fun j => refObject (s.objs.getD j noObj) s.objs.length) hj (by simpa using c1)⟩
        · omega
        · omega
    · obtain rfl : i = s.objs.length := by have := of_decide_eq_false c0; omega
      refine AW.exit ?_
      refine .seq <|
        .seq <|
        .region <|
        .aI rfl rfl <|
        .nil <|
        .block ?_
      refine AW.loop (fun n T hh => ∃ (p : Nat) , p ≤ 2 ∧ n = 2 - p ∧ T = put (put (T0) 5 (V.int .i64 (p : Nat))) 1 (V.iptr (cState s)) ∧ hh = h' ∧ ∀ j, j < p → refPl (s.pl j) = true) (2) ?_ ?_
      · skip
        refine Wk.mk (TLe.put (d := 1) (VLe.refl _) (TLe.put (d := 5) (by exact VLe.of_eq (congrArg (V.int .i64) (by first | rfl | omega))) (TLe.zero _))) (HLe.refl _) ⟨0, Nat.zero_le _, rfl, rfl, rfl, fun j hj => by omega⟩
      · skip
        rintro n T h' ⟨p, hp, rfl, rfl, rfl, hp2⟩
        refine .seq <|
          .seq <|
          .region <|
          .mI rfl rfl <|
          .ql rfl rfl rfl <|
          .nil ?_
        refine AW.cond rfl (fun c2 => ?_) (fun c2 => ?_)
        · have hltp : p < 2 := by have := of_decide_eq_true c2; omega
          refine AW.skip ?_
          refine .seq <|
            .block <|
            .seq <|
            .region <|
            .mI rfl rfl <|
            .fi rfl f29_12 rfl ?_
          refine .u rfl rfl rfl (q_ia_ai rfl underlying26 sizeOf25 rfl rfl (by omega) (by omega) rfl) ?_
          refine .u rfl rfl rfl (q_load_iN (ds := plRow (s.pl (Int.toNat (p : Int)))) rfl isAgg25 sizeOf25 rfl rfl (plp_at (by omega) (by omega))) ?_
          refine AOps.s rfl rfl rfl (a_alloc rfl zeroValue25 rfl (fun id6 hid6 => ?_))
          refine .sw sizeOf25 rfl rfl rfl rfl ?_
          refine AOps.done 6 rfl hid6 ?_
          refine .nil <|
            .seq <|
            .seq <|
            .region ?_
          refine .u rfl rfl rfl (q_ia_ai rfl underlying25 sizeOf3 rfl rfl (by decide) (by decide) rfl) ?_
          refine .li rfl isAgg3 rfl rfl ?_
          refine .u rfl rfl rfl (QOp.call rfl call48 fun h' hl' => by exact refIn_calls _ _ _ h') ?_
          refine .nt rfl rfl <|
            .mB rfl rfl ?_
          refine .gf rfl rfl rfl (fun _ => tl0) (fun hc => q_ia_ai rfl underlying25 sizeOf3 rfl rfl (by decide) (by decide) rfl) ?_
          refine .gf rfl rfl rfl (fun hc => tl1 36 (.opt hc)) (fun hc => q_load_i1 rfl isAgg3 rfl rfl) ?_
          refine .gf rfl rfl rfl (fun hc => tl1 37 (.opt hc)) (fun hc => QOp.call rfl (by exact call48) fun h' hl' => by exact refIn_calls _ _ _ h') ?_
          refine .gf rfl rfl rfl (fun hc => tl1 38 (.opt hc)) (fun hc => q_not rfl rfl) ?_
          refine .pf rfl rfl rfl rfl <|
            .mB rfl rfl ?_
          refine .gf rfl rfl rfl (fun _ => tl0) (fun hc => q_ia_ai rfl underlying25 sizeOf3 rfl rfl (by decide) (by decide) rfl) ?_
          refine .gf rfl rfl rfl (fun hc => tl1 42 (.opt hc)) (fun hc => q_load_i1 rfl isAgg3 rfl rfl) ?_
          refine .gf rfl rfl rfl (fun hc => tl1 43 (.opt hc)) (fun hc => QOp.call rfl (by exact call48) fun h' hl' => by exact refIn_calls _ _ _ h') ?_
          refine .gf rfl rfl rfl (fun hc => tl1 44 (.opt hc)) (fun hc => q_not rfl rfl) ?_
          refine .pf rfl rfl rfl rfl <|
            .nil ?_
          refine AW.cond rfl (fun c3 => ?_) (fun c3 => ?_)
          · skip
            refine .seq <|
              .region <|
              .aB rfl rfl <|
              .nil ?_
            refine AW.ret ?_
            exact retQ.mk' (.one _) (VLe.of_eq (congrArg V.bool (by rw [rr_pl hltp (rp_head (by simpa using c3))]))) (HLe.refl _) ⟨rfl, rfl⟩
          · skip
            refine AW.skip ?_
            refine .seq <|
              .region <|
              .aI rfl rfl <|
              .nil <|
              .block ?_
            refine AW.loop (fun n T hh => ∃ (k : Nat) , k ≤ 6 ∧ n = 6 - k ∧ T = put (put (put (put (T0) 7 (V.int .i64 ((k : Nat) + 1))) 6 (V.iptr (plRow (s.pl p)))) 5 (V.int .i64 (p : Nat))) 1 (V.iptr (cState s)) ∧ hh = h' ∧ ∀ j, j < k → inB (s.pl p (j + 1)) 0 1000 = true) (6) ?_ ?_
            · skip
              refine Wk.mk (TLe.put (d := 1) (VLe.refl _) (TLe.put (d := 5) (VLe.refl _) (TLe.put (d := 6) (VLe.refl _) (TLe.put (d := 7) (by exact VLe.of_eq (congrArg (V.int .i64) (by first | rfl | omega))) (TLe.zero _))))) (HLe.refl _) ⟨0, Nat.zero_le _, rfl, rfl, rfl, fun j hj => by omega⟩
            · skip
              rintro n T h' ⟨k, hk, rfl, rfl, rfl, hk2⟩
              refine .seq <|
                .seq <|
                .region <|
                .mI rfl rfl ?_
              refine .u rfl rfl rfl (q_le rfl rfl rfl) ?_
              refine .nil ?_
              refine AW.cond rfl (fun c4 => ?_) (fun c4 => ?_)
              · have hltk : k < 6 := by have := of_decide_eq_true c4; omega
                refine AW.skip ?_
                refine .seq <|
                  .block <|
                  .seq <|
                  .region <|
                  .mI rfl rfl ?_
                refine .u rfl rfl rfl (q_ia_ai rfl underlying25 sizeOf3 rfl rfl (by omega) (by omega) rfl) ?_
                refine .u rfl rfl rfl (q_load_i1 rfl isAgg3 rfl (plRow_at1 hltk)) ?_
                refine .u rfl rfl rfl (QOp.call rfl call48 fun h' hl' => by exact refIn_calls _ _ _ h') ?_
                refine .nt rfl rfl <|
                  .nil ?_
                refine AW.cond rfl (fun c5 => ?_) (fun c5 => ?_)
                · skip
                  refine .seq <|
                    .region <|
                    .aB rfl rfl <|
                    .nil ?_
                  refine AW.ret ?_
                  exact retQ.mk' (.one _) (VLe.of_eq (congrArg V.bool (by rw [rr_pl hltp (rp_field hltk (by simpa using c5))]))) (HLe.refl _) ⟨rfl, rfl⟩
                · skip
                  refine AW.skip ?_
                  refine .region <|
                    .mI rfl rfl <|
                    .ad rfl rfl rfl (by omega) <|
                    .aI rfl rfl <|
                    .nil ?_
                  refine Wk.mk (TLe.put (d := 1) (VLe.refl _) (TLe.put (d := 5) (VLe.refl _) (TLe.put (d := 6) (VLe.refl _) (TLe.put (d := 7) (by exact VLe.of_eq (congrArg (V.int .i64) (by first | rfl | omega))) (TLe.zero _))))) (HLe.refl _) ⟨_, ?_, k + 1, ?_, rfl, rfl, rfl, all_step (p := fun j => inB (s.pl p (j + 1)) 0 1000) hk2 (by simpa using c5)⟩
                  · omega
                  · omega
              · obtain rfl : k = 6 := by have := of_decide_eq_false c4; omega
                refine AW.exit ?_
                refine .region <|
                  .mI rfl rfl <|
                  .ad rfl rfl rfl (by omega) <|
                  .aI rfl rfl <|
                  .nil ?_
                refine Wk.mk (TLe.put (d := 1) (VLe.refl _) (TLe.put (d := 5) (by exact VLe.of_eq (congrArg (V.int .i64) (by first | rfl | omega))) (TLe.zero _))) (HLe.refl _) ⟨_, ?_, p + 1, ?_, rfl, rfl, rfl, all_step (p := fun j => refPl (s.pl j)) hp2 (by simp only [refPl, Bool.and_eq_true]; exact ⟨by simpa using c3, all_up.2 hk2⟩)⟩
                · omega
                · omega
        · obtain rfl : p = 2 := by have := of_decide_eq_false c2; omega
          refine AW.exit ?_
          refine .seq <|
            .region <|
            .fi rfl f29_30 rfl ?_
          refine .u rfl rfl rfl (q_load_iN rfl isAgg27 sizeOf27 rfl (by rfl) rfl) ?_
          refine AOps.s rfl rfl rfl (a_alloc rfl zeroValue27 rfl (fun id8 hid8 => ?_))
          refine .sw sizeOf27 rfl rfl rfl rfl ?_
          refine AOps.done 8 rfl hid8 ?_
          refine .nil <|
            .seq <|
            .region ?_
          refine .u rfl rfl rfl (q_ia_ai rfl underlying27 sizeOf3 rfl rfl (by decide) (by decide) rfl) ?_
          refine .li rfl isAgg3 rfl rfl ?_
          refine .u rfl rfl rfl (QOp.call rfl call48 fun h' hl' => by exact refIn_calls _ _ _ h') ?_
          refine .mB rfl rfl ?_
          refine .gt rfl rfl rfl (fun _ => tl0) (fun hc => q_ia_ai rfl underlying27 sizeOf3 rfl rfl (by decide) (by decide) rfl) ?_
          refine .gt rfl rfl rfl (fun hc => tl1 62 (.opt hc)) (fun hc => q_load_i1 rfl isAgg3 rfl rfl) ?_
          refine .gt rfl rfl rfl (fun hc => tl1 63 (.opt hc)) (fun hc => QOp.call rfl (by exact call48) fun h' hl' => by exact refIn_calls _ _ _ h') ?_
          refine .pt rfl rfl rfl rfl <|
            .mB rfl rfl ?_
          refine .gt rfl rfl rfl (fun _ => tl0) (fun hc => q_ia_ai rfl underlying27 sizeOf3 rfl rfl (by decide) (by decide) rfl) ?_
          refine .gt rfl rfl rfl (fun hc => tl1 67 (.opt hc)) (fun hc => q_load_i1 rfl isAgg3 rfl rfl) ?_
          refine .gt rfl rfl rfl (fun hc => tl1 68 (.opt hc)) (fun hc => QOp.call rfl (by exact call48) fun h' hl' => by exact refIn_calls _ _ _ h') ?_
          refine .pt rfl rfl rfl rfl <|
            .mB rfl rfl ?_
          refine .gt rfl rfl rfl (fun _ => tl0) (fun hc => q_ia_ai rfl underlying27 sizeOf3 rfl rfl (by decide) (by decide) rfl) ?_
          refine .gt rfl rfl rfl (fun hc => tl1 72 (.opt hc)) (fun hc => q_load_i1 rfl isAgg3 rfl rfl) ?_
          refine .gt rfl rfl rfl (fun hc => tl1 73 (.opt hc)) (fun hc => QOp.call rfl (by exact call48) fun h' hl' => by exact refIn_calls _ _ _ h') ?_
          refine .pt rfl rfl rfl rfl <|
            .mB rfl rfl ?_
          refine .gt rfl rfl rfl (fun _ => tl0) (fun hc => q_ia_ai rfl underlying27 sizeOf3 rfl rfl (by decide) (by decide) rfl) ?_
          refine .gt rfl rfl rfl (fun hc => tl1 77 (.opt hc)) (fun hc => q_load_i1 rfl isAgg3 rfl rfl) ?_
          refine .gt rfl rfl rfl (fun hc => tl1 78 (.opt hc)) (fun hc => QOp.call rfl (by exact call48) fun h' hl' => by exact refIn_calls _ _ _ h') ?_
          refine .pt rfl rfl rfl rfl <|
            .mB rfl rfl ?_
          refine .gt rfl rfl rfl (fun _ => tl0) (fun hc => q_ia_ai rfl underlying27 sizeOf3 rfl rfl (by decide) (by decide) rfl) ?_
          refine .gt rfl rfl rfl (fun hc => tl1 82 (.opt hc)) (fun hc => q_load_i1 rfl isAgg3 rfl rfl) ?_
          refine .gt rfl rfl rfl (fun hc => tl1 83 (.opt hc)) (fun hc => QOp.call rfl (by exact call48) fun h' hl' => by exact refIn_calls _ _ _ h') ?_
          refine .pt rfl rfl rfl rfl <|
            .mB rfl rfl ?_
          refine .gt rfl rfl rfl (fun _ => tl0) (fun hc => q_ia_ai rfl underlying27 sizeOf3 rfl rfl (by decide) (by decide) rfl) ?_
          refine .gt rfl rfl rfl (fun hc => tl1 87 (.opt hc)) (fun hc => q_load_i1 rfl isAgg3 rfl rfl) ?_
          refine .gt rfl rfl rfl (fun hc => tl1 88 (.opt hc)) (fun hc => QOp.call rfl (by exact call48) fun h' hl' => by exact refIn_calls _ _ _ h') ?_
          refine .pt rfl rfl rfl rfl <|
            .aB rfl rfl <|
            .nil ?_
          refine AW.ret ?_
          exact retQ.mk' (.one _) (VLe.of_eq (congrArg V.bool (by rw [refRanges, objs_all.2 hj, all_up.2 hp2, refGame]; simp))) (HLe.refl _) ⟨rfl, rfl⟩

def refStand (o : Obj) : Bool := !((decide (o 3 < 8) && (o 1 != o 3 % 2 || o 13 != 0)) || (o 3 == 8 && o 13 == 2))
def refOcc (s : St) (i : Nat) : Bool := decide ((ids s).count (i : Int) = 1) && ((List.range 11).all fun z => (s.lists z).all fun x => x != (i : Int) || (s.objs.getD i noObj 3 == (z : Int))) && refStand (s.objs.getD i noObj)
def refZones (s : St) : Bool := ((List.range 11).all fun z => (s.lists z).all fun x => inN x s.objs.length) && (List.range s.objs.length).all (refOcc s)
theorem rz_in {s : St} {z k : Nat} (hz : z < 11) (hk : k < (s.lists z).length) (h : inN ((s.lists z).getD k 0) s.objs.length = false) : refZones s = false := by
  have : (s.lists z).all (fun x => inN x s.objs.length) = false := by
    cases e : (s.lists z).all (fun x => inN x s.objs.length) with
    | false => rfl
    | true => rw [list_all.1 e k hk] at h; cases h
  have : ((List.range 11).all fun z => (s.lists z).all fun x => inN x s.objs.length) = false := all_bad hz this
  simp only [refZones, this, Bool.false_and]
theorem rz_occ {s : St} {i : Nat} (hi : i < s.objs.length) (h : refOcc s i = false) : refZones s = false := by
  have : (List.range s.objs.length).all (refOcc s) = false := all_bad hi h
  simp only [refZones, this, Bool.and_false]
theorem ro_zone {s : St} {i z k : Nat} (hz : z < 11) (hk : k < (s.lists z).length) (hx : (s.lists z).getD k 0 = (i : Int)) (h : (z : Int) ≠ s.objs.getD i noObj 3) : refOcc s i = false := by
  have : (s.lists z).all (fun x => x != (i : Int) || (s.objs.getD i noObj 3 == (z : Int))) = false := by
    cases e : (s.lists z).all (fun x => x != (i : Int) || (s.objs.getD i noObj 3 == (z : Int))) with
    | false => rfl
    | true =>
      have := list_all.1 e k hk
      rw [hx] at this
      simp at this; exact absurd this.symm h
  have : ((List.range 11).all fun z => (s.lists z).all fun x => x != (i : Int) || (s.objs.getD i noObj 3 == (z : Int))) = false := all_bad hz this
  simp only [refOcc, this, Bool.and_false, Bool.false_and]
theorem ro_count {s : St} {i : Nat} (h : ((ids s).count (i : Int) : Int) ≠ 1) : refOcc s i = false := by
  have : decide ((ids s).count (i : Int) = 1) = false := decide_eq_false (by omega)
  simp only [refOcc, this, Bool.false_and]
theorem lists_at {s : St} {z : Nat} (h : z < 11) : (((cState s).drop 1).drop ((z : Int).toNat * 1))[0]? = some (eInts (s.lists z)) := by
  rw [Int.toNat_natCast, Nat.mul_one]
  match z, h with
  | 0, _ | 1, _ | 2, _ | 3, _ | 4, _ | 5, _ | 6, _ | 7, _ | 8, _ | 9, _ | 10, _ => rfl
theorem rz_yes {x n : Int} (c : (bif decide (x < 0) then true else decide (n ≤ x)) = false) : inN x n = true := by
  cases h : decide (x < 0)
  · rw [h] at c; simp at c h; simp [inN]; omega
  · rw [h] at c; cases c
theorem rz_no {x n : Int} (c : (bif decide (x < 0) then true else decide (n ≤ x)) = true) : inN x n = false := by
  cases h : decide (x < 0)
  · rw [h] at c; simp at c h; simp [inN]; omega
  · simp at h; simp [inN]; omega
theorem occ_yes {x i z o : Int} (h : (z != o) = false) : (x != i || (o == z)) = true := by
  have : z = o := by simpa using h
  simp [this]
theorem occ_no {x i : Int} {b : Bool} (h : (x == i) = false) : (x != i || b) = true := by
  simp [bne, h]
theorem stand_pick {o : Obj} : (bif (bif decide (o 3 < 8) then (bif o 1 != o 3 % 2 then true else o 13 != 0) else false) then true else (bif o 3 == 8 then o 13 == 2 else false)) = !refStand o := by
  unfold refStand
  generalize decide (o 3 < 8) = a; generalize (o 1 != o 3 % 2) = b; generalize (o 13 != 0) = c; generalize (o 3 == 8) = d; generalize (o 13 == 2) = e
  cases a <;> cases b <;> cases c <;> cases d <;> cases e <;> rfl
theorem ro_stand {s : St} {i : Nat} (h : (!refStand (s.objs.getD i noObj)) = true) : refOcc s i = false := by
  have : refStand (s.objs.getD i noObj) = false := by simpa using h
  simp only [refOcc, this, Bool.and_false]
theorem ro_all {s : St} {i : Nat} (h1 : (((upto s 11 0).count (i : Int) : Nat) : Int) = 1) (h2 : ∀ j, j < 11 → (s.lists j).all (fun x => x != (i : Int) || (s.objs.getD i noObj 3 == (j : Int))) = true) (h3 : (!refStand (s.objs.getD i noObj)) = false) : refOcc s i = true := by
  have e3 : refStand (s.objs.getD i noObj) = true := by simpa using h3
  have e1 : (ids s).count (i : Int) = 1 := by rw [← upto_all]; omega
  have e2 := all_up.2 h2
  simp only [refOcc, e3, e2, decide_eq_true e1, Bool.and_self]
theorem cnt_succ {s : St} {z k i : Nat} (h : k < (s.lists z).length) : (upto s z (k + 1)).count (i : Int) = (upto s z k).count (i : Int) + if (s.lists z).getD k 0 = (i : Int) then 1 else 0 := by
  rw [upto_succ h, List.count_append, List.count_singleton]; simp only [beq_iff_eq]
theorem cnt_len {s : St} (hl : ∀ z, (s.lists z).length ≤ 1000000) (z k : Nat) (x : Int) (hz : z ≤ 11) : (upto s z k).count x ≤ 12000000 := by
  have h1 := upto_len hl z k
  have h2 := List.count_le_length (a := x) (l := upto s z k)
  have : z * 1000000 ≤ 11 * 1000000 := Nat.mul_le_mul_right _ hz
  omega

theorem refZones_calls (s : St) (hb : s.objs.length ≤ 1000000) (hl : ∀ z, (s.lists z).length ≤ 1000000) (h3 : ∀ i, i < s.objs.length → 0 ≤ s.objs.getD i noObj 3 ∧ s.objs.getD i noObj 3 ≤ 10) (h : Hp) : ACalls prog G 26 [eState s] h fun r h' => r = .bool (refZones s) ∧ h' = h := by
  refine ACalls.enter func26 rfl ntmps26 results26 rfl ?_
  refine .seq <|
    .region <|
    .bx rfl rfl <|
    .aB rfl rfl <|
    .nil <|
    .seq <|
    .seq <|
    .region <|
    .aI rfl rfl <|
    .nil <|
    .block ?_
  refine AW.loop (fun n T hh => ∃ (z : Nat) , z ≤ 11 ∧ n = 11 - z ∧ T = put (put (T0) 3 (V.int .i64 (z : Nat))) 1 (V.iptr (cState s)) ∧ hh = h ∧ ∀ j, j < z → (s.lists j).all (fun x => inN x s.objs.length) = true) (11) ?_ ?_
  · skip
    refine Wk.mk (TLe.put (d := 1) (VLe.refl _) (TLe.put (d := 3) (by exact VLe.of_eq (congrArg (V.int .i64) (by first | rfl | omega))) (TLe.zero _))) (HLe.refl _) ⟨0, Nat.zero_le _, rfl, rfl, rfl, fun j hj => by omega⟩
  · skip
    rintro n T h' ⟨z, hz, rfl, rfl, rfl, hz2⟩
    refine .seq <|
      .seq <|
      .region <|
      .mI rfl rfl <|
      .ql rfl rfl rfl <|
      .nil ?_
    refine AW.cond rfl (fun c0 => ?_) (fun c0 => ?_)
    · have hltz : z < 11 := by have := of_decide_eq_true c0; omega
      have hlz := hl z
      refine AW.skip ?_
      refine .seq <|
        .block <|
        .seq <|
        .region <|
        .mI rfl rfl <|
        .fi rfl f29_1 rfl ?_
      refine .u rfl rfl rfl (q_ia_ai rfl underlying24 sizeOf23 rfl rfl (by omega) (by omega) rfl) ?_
      refine .u rfl rfl rfl (q_load_i1 rfl isAgg23 rfl (lists_at hltz)) ?_
      refine .ln rfl underlying23 rfl <|
        .mI rfl rfl <|
        .nil <|
        .block ?_
      refine AW.loop (fun n T hh => ∃ (k : Nat) , k ≤ (s.lists z).length ∧ n = (s.lists z).length - k ∧ T = put (put (put (put (put (T0) 21 (V.int .i64 (k : Nat))) 20 (V.int .i64 (s.lists z).length)) 19 (eInts (s.lists z))) 3 (V.int .i64 (z : Nat))) 1 (V.iptr (cState s)) ∧ hh = h' ∧ ∀ j, j < k → inN ((s.lists z).getD j 0) s.objs.length = true) ((s.lists z).length) ?_ ?_
      · skip
        refine Wk.mk (TLe.put (d := 1) (VLe.refl _) (TLe.put (d := 3) (VLe.refl _) (TLe.put (d := 19) (VLe.refl _) (TLe.put (d := 20) (VLe.refl _) (TLe.put (d := 21) (by exact VLe.of_eq (congrArg (V.int .i64) (by first | rfl | omega))) (TLe.zero _)))))) (HLe.refl _) ⟨0, Nat.zero_le _, rfl, rfl, rfl, fun j hj => by omega⟩
      · skip
        rintro n T h' ⟨k, hk, rfl, rfl, rfl, hk2⟩
        refine .seq <|
          .region <|
          .ql rfl rfl rfl <|
          .nil <|
          .seq ?_
        refine AW.cond rfl (fun c1 => ?_) (fun c1 => ?_)
        · have hltk : k < (s.lists z).length := by have := of_decide_eq_true c1; omega
          refine AW.skip ?_
          refine .seq <|
            .block <|
            .seq <|
            .region ?_
          refine .u rfl rfl rfl (q_ia_s rfl underlying23 sizeOf3 rfl rfl (by omega) (by omega) (cInts_at hltk)) ?_
          refine .li rfl isAgg3 rfl rfl <|
            .aI rfl rfl <|
            .nil <|
            .seq <|
            .region <|
            .mI rfl rfl <|
            .ql rfl rfl rfl <|
            .mB rfl rfl ?_
          refine .gf rfl rfl rfl (fun _ => tl0) (fun hc => q_mv rfl (rfl : _ = V.int _ _)) ?_
          refine .gf rfl rfl rfl (fun _ => tl0) (fun hc => q_fa_i rfl underlying29 rfl (by exact sizeOf22) (by decide) rfl (rfl : _ = List.drop 0 _)) ?_
          refine .gf rfl rfl rfl (fun hc => tl1 29 (.opt hc)) (fun hc => q_load_i1 rfl isAgg22 rfl rfl) ?_
          refine .gf rfl rfl rfl (fun hc => tl1 30 (.opt hc)) (fun hc => q_len rfl underlying22 rfl) ?_
          refine .gf rfl rfl rfl (fun hc => tl2 31 28 (.opt hc) (.opt hc)) (fun hc => q_ge rfl rfl rfl) ?_
          refine .pf rfl rfl rfl rfl <|
            .nil ?_
          refine AW.cond rfl (fun c2 => ?_) (fun c2 => ?_)
          · skip
            refine .seq <|
              .region <|
              .aB rfl rfl <|
              .nil ?_
            refine AW.ret ?_
            exact retQ.mk' (.one _) (VLe.of_eq (congrArg V.bool (by rw [rz_in hltz hltk (rz_no c2)]))) (HLe.refl _) ⟨rfl, rfl⟩
          · skip
            refine AW.skip ?_
            refine .region <|
              .ad rfl rfl rfl (by omega) <|
              .mI rfl rfl <|
              .nil ?_
            refine Wk.mk (TLe.put (d := 1) (VLe.refl _) (TLe.put (d := 3) (VLe.refl _) (TLe.put (d := 19) (VLe.refl _) (TLe.put (d := 20) (VLe.refl _) (TLe.put (d := 21) (by exact VLe.of_eq (congrArg (V.int .i64) (by first | rfl | omega))) (TLe.zero _)))))) (HLe.refl _) ⟨_, ?_, k + 1, ?_, rfl, rfl, rfl, all_step (p := fun j => inN ((s.lists z).getD j 0) s.objs.length) hk2 (rz_yes c2)⟩
            · omega
            · omega
        · obtain rfl : k = (s.lists z).length := by have := of_decide_eq_false c1; omega
          refine AW.exit ?_
          refine .region <|
            .mI rfl rfl <|
            .ad rfl rfl rfl (by omega) <|
            .aI rfl rfl <|
            .nil ?_
          refine Wk.mk (TLe.put (d := 1) (VLe.refl _) (TLe.put (d := 3) (by exact VLe.of_eq (congrArg (V.int .i64) (by first | rfl | omega))) (TLe.zero _))) (HLe.refl _) ⟨_, ?_, z + 1, ?_, rfl, rfl, rfl, all_step (p := fun j => (s.lists j).all (fun x => inN x s.objs.length)) hz2 (list_all.2 hk2)⟩
          · omega
          · omega
    · obtain rfl : z = 11 := by have := of_decide_eq_false c0; omega
      refine AW.exit ?_
      refine .seq <|
        .seq <|
        .region <|
        .fi rfl f29_0 rfl <|
        .li rfl isAgg22 rfl rfl <|
        .ln rfl underlying22 rfl <|
        .mI rfl rfl <|
        .nil <|
        .block ?_
      refine AW.loop (fun n T hh => ∃ (i : Nat) , i ≤ s.objs.length ∧ n = s.objs.length - i ∧ T = put (put (put (put (T0) 38 (V.int .i64 (i : Nat))) 37 (V.int .i64 s.objs.length)) 36 (eObjs s.objs)) 1 (V.iptr (cState s)) ∧ hh = h' ∧ ∀ j, j < i → refOcc s j = true) (s.objs.length) ?_ ?_
      · skip
        refine Wk.mk (TLe.put (d := 1) (VLe.refl _) (TLe.put (d := 36) (VLe.refl _) (TLe.put (d := 37) (VLe.refl _) (TLe.put (d := 38) (by exact VLe.of_eq (congrArg (V.int .i64) (by first | rfl | omega))) (TLe.zero _))))) (HLe.refl _) ⟨0, Nat.zero_le _, rfl, rfl, rfl, fun j hj => by omega⟩
      · skip
        rintro n T h' ⟨i, hi, rfl, rfl, rfl, hj⟩
        refine .seq <|
          .region <|
          .ql rfl rfl rfl <|
          .nil <|
          .seq ?_
        refine AW.cond rfl (fun c3 => ?_) (fun c3 => ?_)
        · have hlt : i < s.objs.length := by have := of_decide_eq_true c3; omega
          have h3i := h3 i hlt
          refine AW.skip ?_
          refine .seq <|
            .block <|
            .seq <|
            .region <|
            .mI rfl rfl ?_
          refine .u rfl rfl rfl (q_ia_s rfl underlying22 sizeOf49 rfl rfl (by omega) (by omega) (cObjs_elem' (by omega) (by omega))) ?_
          refine .lw rfl isAgg49 sizeOf49 rfl rfl ?_
          refine AOps.s rfl rfl rfl (a_alloc rfl zeroValue49 rfl (fun id7 hid7 => ?_))
          refine .aI rfl rfl <|
            .sw sizeOf49 rfl rfl rfl rfl ?_
          refine AOps.done 7 rfl hid7 ?_
          refine .nil <|
            .seq <|
            .region <|
            .aI rfl rfl <|
            .nil <|
            .seq <|
            .seq <|
            .region <|
            .aI rfl rfl <|
            .nil <|
            .block ?_
          refine AW.loop (fun n T hh => ∃ (y : Nat) , y ≤ 11 ∧ n = 11 - y ∧ T = put (put (put (put (put (put (put (put (T0) 9 (V.int .i64 (y : Nat))) 8 (V.int .i64 ((upto s y 0).count (i : Int) : Nat))) 7 (V.iptr (cObj (s.objs.getD i noObj)))) 6 (V.int .i64 (i : Nat))) 38 (V.int .i64 (i : Nat))) 37 (V.int .i64 s.objs.length)) 36 (eObjs s.objs)) 1 (V.iptr (cState s)) ∧ hh = h' ∧ ∀ j, j < y → (s.lists j).all (fun x => x != (i : Int) || (s.objs.getD i noObj 3 == (j : Int))) = true) (11) ?_ ?_
          · skip
            refine Wk.mk (TLe.put (d := 1) (VLe.refl _) (TLe.put (d := 36) (VLe.refl _) (TLe.put (d := 37) (VLe.refl _) (TLe.put (d := 38) (VLe.refl _) (TLe.put (d := 6) (VLe.refl _) (TLe.put (d := 7) (VLe.refl _) (TLe.put (d := 8) (by exact VLe.refl _) (TLe.put (d := 9) (by exact VLe.of_eq (congrArg (V.int .i64) (by first | rfl | omega))) (TLe.zero _))))))))) (HLe.refl _) ⟨0, Nat.zero_le _, rfl, rfl, rfl, fun j hj => by omega⟩
          · skip
            rintro n T h' ⟨y, hy, rfl, rfl, rfl, hy2⟩
            refine .seq <|
              .seq <|
              .region <|
              .mI rfl rfl <|
              .ql rfl rfl rfl <|
              .nil ?_
            refine AW.cond rfl (fun c4 => ?_) (fun c4 => ?_)
            · have hlty : y < 11 := by have := of_decide_eq_true c4; omega
              have hly := hl y
              refine AW.skip ?_
              refine .seq <|
                .block <|
                .seq <|
                .region <|
                .mI rfl rfl <|
                .fi rfl f29_1 rfl ?_
              refine .u rfl rfl rfl (q_ia_ai rfl underlying24 sizeOf23 rfl rfl (by omega) (by omega) rfl) ?_
              refine .u rfl rfl rfl (q_load_i1 rfl isAgg23 rfl (lists_at hlty)) ?_
              refine .ln rfl underlying23 rfl <|
                .mI rfl rfl <|
                .nil <|
                .block ?_
              refine AW.loop (fun n T hh => ∃ (q : Nat) , q ≤ (s.lists y).length ∧ n = (s.lists y).length - q ∧ T = put (put (put (put (put (put (put (put (put (put (put (T0) 52 (V.int .i64 (q : Nat))) 51 (V.int .i64 (s.lists y).length)) 50 (eInts (s.lists y))) 9 (V.int .i64 (y : Nat))) 8 (V.int .i64 ((upto s y q).count (i : Int) : Nat))) 7 (V.iptr (cObj (s.objs.getD i noObj)))) 6 (V.int .i64 (i : Nat))) 38 (V.int .i64 (i : Nat))) 37 (V.int .i64 s.objs.length)) 36 (eObjs s.objs)) 1 (V.iptr (cState s)) ∧ hh = h' ∧ ∀ j, j < q → ((s.lists y).getD j 0 != (i : Int) || (s.objs.getD i noObj 3 == (y : Int))) = true) ((s.lists y).length) ?_ ?_
              · skip
                refine Wk.mk (TLe.put (d := 1) (VLe.refl _) (TLe.put (d := 36) (VLe.refl _) (TLe.put (d := 37) (VLe.refl _) (TLe.put (d := 38) (VLe.refl _) (TLe.put (d := 6) (VLe.refl _) (TLe.put (d := 7) (VLe.refl _) (TLe.put (d := 8) (by exact VLe.of_eq (congrArg (V.int .i64) (by first | rfl | omega))) (TLe.put (d := 9) (VLe.refl _) (TLe.put (d := 50) (VLe.refl _) (TLe.put (d := 51) (VLe.refl _) (TLe.put (d := 52) (by exact VLe.of_eq (congrArg (V.int .i64) (by first | rfl | omega))) (TLe.zero _)))))))))))) (HLe.refl _) ⟨0, Nat.zero_le _, rfl, rfl, rfl, fun j hj => by omega⟩
              · skip
                rintro n T h' ⟨q, hq, rfl, rfl, rfl, hq2⟩
                refine .seq <|
                  .region <|
                  .ql rfl rfl rfl <|
                  .nil <|
                  .seq ?_
                refine AW.cond rfl (fun c5 => ?_) (fun c5 => ?_)
                · have hltq : q < (s.lists y).length := by have := of_decide_eq_true c5; omega
                  have hcl := cnt_len hl y q (i : Int) (by omega)
                  refine AW.skip ?_
                  refine .seq <|
                    .block <|
                    .seq <|
                    .region ?_
                  refine .u rfl rfl rfl (q_ia_s rfl underlying23 sizeOf3 rfl rfl (by omega) (by omega) (cInts_at hltq)) ?_
                  refine .li rfl isAgg3 rfl rfl <|
                    .aI rfl rfl <|
                    .nil <|
                    .seq <|
                    .region <|
                    .mI rfl rfl <|
                    .mI rfl rfl <|
                    .qe rfl rfl rfl <|
                    .nil ?_
                  refine AW.cond rfl (fun c6 => ?_) (fun c6 => ?_)
                  · skip
                    refine .seq <|
                      .region <|
                      .mI rfl rfl <|
                      .ad rfl rfl rfl (by omega) <|
                      .aI rfl rfl <|
                      .nil <|
                      .seq <|
                      .region <|
                      .mI rfl rfl ?_
                    refine .u rfl rfl rfl (q_ia_ai rfl underlying49 sizeOf3 rfl rfl (by decide) (by decide) rfl) ?_
                    refine .li rfl isAgg3 rfl rfl <|
                      .qn rfl rfl rfl <|
                      .nil ?_
                    refine AW.cond rfl (fun c7 => ?_) (fun c7 => ?_)
                    · skip
                      refine .seq <|
                        .region <|
                        .aB rfl rfl <|
                        .nil ?_
                      refine AW.ret ?_
                      exact retQ.mk' (.one _) (VLe.of_eq (congrArg V.bool (by rw [rz_occ hlt (ro_zone hlty hltq (by simpa using c6) (by simpa using c7))]))) (HLe.refl _) ⟨rfl, rfl⟩
                    · skip
                      refine AW.skip ?_
                      refine .region <|
                        .ad rfl rfl rfl (by omega) <|
                        .mI rfl rfl <|
                        .nil ?_
                      refine Wk.mk (TLe.put (d := 1) (VLe.refl _) (TLe.put (d := 36) (VLe.refl _) (TLe.put (d := 37) (VLe.refl _) (TLe.put (d := 38) (VLe.refl _) (TLe.put (d := 6) (VLe.refl _) (TLe.put (d := 7) (VLe.refl _) (TLe.put (d := 8) (by exact VLe.of_eq (congrArg (V.int .i64) (by rw [cnt_succ hltq]; first | (rw [if_pos (by simpa using c6)]; all_goals omega) | (rw [if_neg (by simpa using c6)]; all_goals omega)))) (TLe.put (d := 9) (VLe.refl _) (TLe.put (d := 50) (VLe.refl _) (TLe.put (d := 51) (VLe.refl _) (TLe.put (d := 52) (by exact VLe.of_eq (congrArg (V.int .i64) (by first | rfl | omega))) (TLe.zero _)))))))))))) (HLe.refl _) ⟨_, ?_, q + 1, ?_, rfl, rfl, rfl, all_step (p := fun j => (s.lists y).getD j 0 != (i : Int) || (s.objs.getD i noObj 3 == (y : Int))) hq2 (by first | exact occ_yes c7 | exact occ_no c6)⟩
                      · omega
                      · omega
                  · skip
                    refine AW.skip ?_
                    refine .region <|
                      .ad rfl rfl rfl (by omega) <|
                      .mI rfl rfl <|
                      .nil ?_
                    refine Wk.mk (TLe.put (d := 1) (VLe.refl _) (TLe.put (d := 36) (VLe.refl _) (TLe.put (d := 37) (VLe.refl _) (TLe.put (d := 38) (VLe.refl _) (TLe.put (d := 6) (VLe.refl _) (TLe.put (d := 7) (VLe.refl _) (TLe.put (d := 8) (by exact VLe.of_eq (congrArg (V.int .i64) (by rw [cnt_succ hltq]; first | (rw [if_pos (by simpa using c6)]; all_goals omega) | (rw [if_neg (by simpa using c6)]; all_goals omega)))) (TLe.put (d := 9) (VLe.refl _) (TLe.put (d := 50) (VLe.refl _) (TLe.put (d := 51) (VLe.refl _) (TLe.put (d := 52) (by exact VLe.of_eq (congrArg (V.int .i64) (by first | rfl | omega))) (TLe.zero _)))))))))))) (HLe.refl _) ⟨_, ?_, q + 1, ?_, rfl, rfl, rfl, all_step (p := fun j => (s.lists y).getD j 0 != (i : Int) || (s.objs.getD i noObj 3 == (y : Int))) hq2 (by first | exact occ_yes c7 | exact occ_no c6)⟩
                    · omega
                    · omega
                · obtain rfl : q = (s.lists y).length := by have := of_decide_eq_false c5; omega
                  refine AW.exit ?_
                  refine .region <|
                    .mI rfl rfl <|
                    .ad rfl rfl rfl (by omega) <|
                    .aI rfl rfl <|
                    .nil ?_
                  refine Wk.mk (TLe.put (d := 1) (VLe.refl _) (TLe.put (d := 36) (VLe.refl _) (TLe.put (d := 37) (VLe.refl _) (TLe.put (d := 38) (VLe.refl _) (TLe.put (d := 6) (VLe.refl _) (TLe.put (d := 7) (VLe.refl _) (TLe.put (d := 8) (by exact VLe.of_eq (congrArg (V.int .i64) (by rw [upto_next]))) (TLe.put (d := 9) (by exact VLe.of_eq (congrArg (V.int .i64) (by first | rfl | omega))) (TLe.zero _))))))))) (HLe.refl _) ⟨_, ?_, y + 1, ?_, rfl, rfl, rfl, all_step (p := fun j => (s.lists j).all (fun x => x != (i : Int) || (s.objs.getD i noObj 3 == (j : Int)))) hy2 (list_all.2 hq2)⟩
                  · omega
                  · omega
            · obtain rfl : y = 11 := by have := of_decide_eq_false c4; omega
              refine AW.exit ?_
              refine .seq <|
                .seq <|
                .region <|
                .mI rfl rfl <|
                .qn rfl rfl rfl <|
                .nil ?_
              refine AW.cond rfl (fun c8 => ?_) (fun c8 => ?_)
              · skip
                refine .seq <|
                  .region <|
                  .aB rfl rfl <|
                  .nil ?_
                refine AW.ret ?_
                exact retQ.mk' (.one _) (VLe.of_eq (congrArg V.bool (by rw [rz_occ hlt (ro_count (by rw [← upto_all]; simpa using c8))]))) (HLe.refl _) ⟨rfl, rfl⟩
              · skip
                refine AW.skip ?_
                refine .seq <|
                  .region ?_
                refine .u rfl rfl rfl (q_ia_ai rfl underlying49 sizeOf3 rfl rfl (by decide) (by decide) rfl) ?_
                refine .li rfl isAgg3 rfl rfl <|
                  .ql rfl rfl rfl <|
                  .mB rfl rfl ?_
                refine .gt rfl rfl rfl (fun _ => tl0) (fun hc => q_ia_ai rfl underlying49 sizeOf3 rfl rfl (by decide) (by decide) rfl) ?_
                refine .gt rfl rfl rfl (fun hc => tl1 72 (.opt hc)) (fun hc => q_load_i1 rfl isAgg3 rfl rfl) ?_
                refine .gt rfl rfl rfl (fun _ => tl0) (fun hc => q_ia_ai rfl underlying49 sizeOf3 rfl rfl (by decide) (by decide) rfl) ?_
                refine .gt rfl rfl rfl (fun hc => tl1 74 (.opt hc)) (fun hc => q_load_i1 rfl isAgg3 rfl rfl) ?_
                refine .gt rfl rfl rfl (fun hc => tl1 75 (.opt hc)) (fun hc => q_rem' rfl rfl rfl (by omega) (by omega)) ?_
                refine .gt rfl rfl rfl (fun hc => tl2 76 73 (.opt hc) (.opt hc)) (fun hc => q_ne rfl rfl rfl) ?_
                refine .gt rfl rfl rfl (fun hc => tl1 77 (.opt hc)) (fun hc => q_mv rfl (rfl : _ = V.bool _)) ?_
                refine AOps.g (wanted_fo rfl rfl) rfl rfl (fun _ => tl0) (fun hc => q_ia_ai rfl underlying49 sizeOf3 rfl rfl (by decide) (by decide) rfl) ?_
                refine AOps.g (wanted_fo rfl rfl) rfl rfl (fun hc => tl1 79 (.opt hc)) (fun hc => q_load_i1 rfl isAgg3 rfl rfl) ?_
                refine AOps.g (wanted_fo rfl rfl) rfl rfl (fun hc => tl1 80 (.opt hc)) (fun hc => q_ne rfl rfl rfl) ?_
                refine .gt rfl rfl rfl (fun hc => tl1 78 (.opt hc)) (fun hc => q_pickg rfl rfl (fun hp => by exact VLe.refl _) (fun hp => by first | exact VLe.opt hp | exact VLe.opt (by rw [hp]; rfl) | exact VLe.opt (by simp_all))) ?_
                refine .pt rfl rfl rfl rfl <|
                  .mB rfl rfl ?_
                refine .gf rfl rfl rfl (fun _ => tl0) (fun hc => q_ia_ai rfl underlying49 sizeOf3 rfl rfl (by decide) (by decide) rfl) ?_
                refine .gf rfl rfl rfl (fun hc => tl1 85 (.opt hc)) (fun hc => q_load_i1 rfl isAgg3 rfl rfl) ?_
                refine .gf rfl rfl rfl (fun hc => tl1 86 (.opt hc)) (fun hc => q_eq rfl rfl rfl) ?_
                refine .gf rfl rfl rfl (fun hc => tl1 87 (.opt hc)) (fun hc => q_mv rfl (rfl : _ = V.bool _)) ?_
                refine AOps.g (wanted_to rfl rfl) rfl rfl (fun _ => tl0) (fun hc => q_ia_ai rfl underlying49 sizeOf3 rfl rfl (by decide) (by decide) rfl) ?_
                refine AOps.g (wanted_to rfl rfl) rfl rfl (fun hc => tl1 89 (.opt hc)) (fun hc => q_load_i1 rfl isAgg3 rfl rfl) ?_
                refine AOps.g (wanted_to rfl rfl) rfl rfl (fun hc => tl1 90 (.opt hc)) (fun hc => q_eq rfl rfl rfl) ?_
                refine .gf rfl rfl rfl (fun hc => tl1 88 (.opt hc)) (fun hc => q_pickg rfl rfl (fun hp => by first | exact VLe.opt hp | exact VLe.opt (by rw [hp]; rfl) | exact VLe.opt (by simp_all)) (fun hp => by exact VLe.refl _)) ?_
                refine .pf rfl rfl rfl rfl <|
                  .nil ?_
                refine AW.cond rfl (fun c9 => ?_) (fun c9 => ?_)
                · skip
                  refine .seq <|
                    .region <|
                    .aB rfl rfl <|
                    .nil ?_
                  refine AW.ret ?_
                  exact retQ.mk' (.one _) (VLe.of_eq (congrArg V.bool (by rw [rz_occ hlt (ro_stand (stand_pick.symm.trans c9))]))) (HLe.refl _) ⟨rfl, rfl⟩
                · skip
                  refine AW.skip ?_
                  refine .region <|
                    .ad rfl rfl rfl (by omega) <|
                    .mI rfl rfl <|
                    .nil ?_
                  refine Wk.mk (TLe.put (d := 1) (VLe.refl _) (TLe.put (d := 36) (VLe.refl _) (TLe.put (d := 37) (VLe.refl _) (TLe.put (d := 38) (by exact VLe.of_eq (congrArg (V.int .i64) (by first | rfl | omega))) (TLe.zero _))))) (HLe.refl _) ⟨_, ?_, i + 1, ?_, rfl, rfl, rfl, all_step (p := refOcc s) hj (ro_all (by simpa using c8) hy2 (stand_pick.symm.trans c9))⟩
                  · omega
                  · omega
        · obtain rfl : i = s.objs.length := by have := of_decide_eq_false c3; omega
          refine AW.exit ?_
          refine .seq <|
            .region <|
            .aB rfl rfl <|
            .nil ?_
          refine AW.ret ?_
          exact retQ.mk' (.one _) (VLe.of_eq (congrArg V.bool (by rw [refZones, all_up.2 hz2, all_up.2 hj]; rfl))) (HLe.refl _) ⟨rfl, rfl⟩

def refCheck (s : St) : Int := if 400 < (s.objs.length : Int) then 5 else if refRanges s = false then 1 else if refZones s = false then 12 else if s.objs.any (fun o => !formedF o) then 2 else 0
theorem rr_zone {s : St} (h : refRanges s = true) (i : Nat) (hi : i < s.objs.length) : 0 ≤ s.objs.getD i noObj 3 ∧ s.objs.getD i noObj 3 ≤ 10 := by
  simp only [refRanges, Bool.and_eq_true] at h
  have := objs_all.1 h.1.1 i hi
  simp only [refObject, Bool.and_eq_true] at this
  have := this.1.1.1.1.1.1.1.1.1.1.1.1.1.1.2
  simpa [inB] using this

theorem refCheck_calls (s : St) (hb : s.objs.length ≤ 1000000) (hl : ∀ z, (s.lists z).length ≤ 1000000) (h : Hp) : ACalls prog G 9 [eState s] h fun r h' => r = .int .i64 (refCheck s) ∧ h' = h := by
  refine ACalls.enter func9 rfl ntmps9 results9 rfl ?_
  refine .seq <|
    .region <|
    .bx rfl rfl <|
    .aI rfl rfl <|
    .nil <|
    .seq <|
    .seq <|
    .region <|
    .fi rfl f29_0 rfl <|
    .li rfl isAgg22 rfl rfl <|
    .ln rfl underlying22 rfl ?_
  refine .u rfl rfl rfl (q_gt rfl rfl rfl) ?_
  refine .nil ?_
  refine AW.cond rfl (fun c0 => ?_) (fun c0 => ?_)
  · skip
    refine .seq <|
      .region <|
      .aI rfl rfl <|
      .nil ?_
    refine AW.ret ?_
    exact retQ.mk' (.one _) (VLe.of_eq (congrArg (V.int .i64) (by rw [refCheck, if_pos (by simpa using c0)]))) (HLe.refl _) ⟨rfl, rfl⟩
  · skip
    refine AW.skip ?_
    refine .seq <|
      .seq <|
      .region <|
      .lw rfl isAgg29 sizeOf29 rfl rfl ?_
    refine .u rfl rfl rfl (QOp.call rfl call25 fun h' hl' => by exact refRanges_calls _ (by assumption) h') ?_
    refine .nt rfl rfl <|
      .nil ?_
    refine AW.cond rfl (fun c1 => ?_) (fun c1 => ?_)
    · skip
      refine .seq <|
        .region <|
        .aI rfl rfl <|
        .nil ?_
      refine AW.ret ?_
      exact retQ.mk' (.one _) (VLe.of_eq (congrArg (V.int .i64) (by rw [refCheck, if_neg (by simpa using c0), if_pos (by simpa using c1)]))) (HLe.refl _) ⟨rfl, rfl⟩
    · have hrr : refRanges s = true := by simpa using c1
      refine AW.skip ?_
      refine .seq <|
        .seq <|
        .region <|
        .lw rfl isAgg29 sizeOf29 rfl rfl ?_
      refine .u rfl rfl rfl (QOp.call rfl call26 fun h' hl' => by exact refZones_calls s hb hl (rr_zone hrr) h') ?_
      refine .nt rfl rfl <|
        .nil ?_
      refine AW.cond rfl (fun c2 => ?_) (fun c2 => ?_)
      · skip
        refine .seq <|
          .region <|
          .aI rfl rfl <|
          .nil ?_
        refine AW.ret ?_
        exact retQ.mk' (.one _) (VLe.of_eq (congrArg (V.int .i64) (by rw [refCheck, if_neg (by simpa using c0), if_neg (by simpa using c1), if_pos (by simpa using c2)]))) (HLe.refl _) ⟨rfl, rfl⟩
      · skip
        refine AW.skip ?_
        refine .seq <|
          .seq <|
          .region <|
          .fi rfl f29_0 rfl <|
          .li rfl isAgg22 rfl rfl <|
          .ln rfl underlying22 rfl <|
          .mI rfl rfl <|
          .nil <|
          .block ?_
        refine AW.loop (fun n T hh => ∃ (i : Nat) , i ≤ s.objs.length ∧ n = s.objs.length - i ∧ T = put (put (put (put (T0) 18 (V.int .i64 (i : Nat))) 17 (V.int .i64 s.objs.length)) 16 (eObjs s.objs)) 1 (V.iptr (cState s)) ∧ hh = h ∧ ∀ j, j < i → formedF (s.objs.getD j noObj) = true) (s.objs.length) ?_ ?_
        · skip
          refine Wk.mk (TLe.put (d := 1) (VLe.refl _) (TLe.put (d := 16) (VLe.refl _) (TLe.put (d := 17) (VLe.refl _) (TLe.put (d := 18) (by exact VLe.of_eq (congrArg (V.int .i64) (by first | rfl | omega))) (TLe.zero _))))) (HLe.refl _) ⟨0, Nat.zero_le _, rfl, rfl, rfl, fun j hj => by omega⟩
        · skip
          rintro n T h' ⟨i, hi, rfl, rfl, rfl, hj⟩
          refine .seq <|
            .region <|
            .ql rfl rfl rfl <|
            .nil <|
            .seq ?_
          refine AW.cond rfl (fun c3 => ?_) (fun c3 => ?_)
          · have hlt : i < s.objs.length := by have := of_decide_eq_true c3; omega
            refine AW.skip ?_
            refine .seq <|
              .block <|
              .seq <|
              .region ?_
            refine .u rfl rfl rfl (q_ia_s rfl underlying22 sizeOf49 rfl rfl (by omega) (by omega) (cObjs_elem' (by omega) (by omega))) ?_
            refine .lw rfl isAgg49 sizeOf49 rfl rfl ?_
            refine AOps.s rfl rfl rfl (a_alloc rfl zeroValue49 rfl (fun id4 hid4 => ?_))
            refine .sw sizeOf49 rfl rfl rfl rfl ?_
            refine AOps.done 4 rfl hid4 ?_
            refine .nil <|
              .seq <|
              .region <|
              .lw rfl isAgg49 sizeOf49 rfl rfl ?_
            refine .u rfl rfl rfl (QOp.call rfl call27 fun h' hl' => by exact refFormed_calls _ h') ?_
            refine .nt rfl rfl <|
              .nil ?_
            refine AW.cond rfl (fun c4 => ?_) (fun c4 => ?_)
            · skip
              refine .seq <|
                .region <|
                .aI rfl rfl <|
                .nil ?_
              refine AW.ret ?_
              exact retQ.mk' (.one _) (VLe.of_eq (congrArg (V.int .i64) (by rw [refCheck, if_neg (by simpa using c0), if_neg (by simpa using c1), if_neg (by simpa using c2), if_pos (List.any_eq_true.2 ⟨_, getD_mem' (z := noObj) hlt, c4⟩)]))) (HLe.refl _) ⟨rfl, rfl⟩
            · skip
              refine AW.skip ?_
              refine .region <|
                .ad rfl rfl rfl (by omega) <|
                .mI rfl rfl <|
                .nil ?_
              refine Wk.mk (TLe.put (d := 1) (VLe.refl _) (TLe.put (d := 16) (VLe.refl _) (TLe.put (d := 17) (VLe.refl _) (TLe.put (d := 18) (by exact VLe.of_eq (congrArg (V.int .i64) (by first | rfl | omega))) (TLe.zero _))))) (HLe.refl _) ⟨_, ?_, i + 1, ?_, rfl, rfl, rfl, all_step (p := fun j => formedF (s.objs.getD j noObj)) hj (by simpa using c4)⟩
              · omega
              · omega
          · obtain rfl : i = s.objs.length := by have := of_decide_eq_false c3; omega
            refine AW.exit ?_
            refine .seq <|
              .region <|
              .aI rfl rfl <|
              .nil ?_
            refine AW.ret ?_
            exact retQ.mk' (.one _) (VLe.of_eq (congrArg (V.int .i64) (by rw [refCheck, if_neg (by simpa using c0), if_neg (by simpa using c1), if_neg (by simpa using c2), if_neg (by rw [Bool.not_eq_true, List.any_eq_false]; intro o ho; have := List.all_eq_true.1 (objs_all.2 hj) o ho; simpa using this)]))) (HLe.refl _) ⟨rfl, rfl⟩

end Go.Proofs.YtnbmcbkokaoapaaGreatDoor
