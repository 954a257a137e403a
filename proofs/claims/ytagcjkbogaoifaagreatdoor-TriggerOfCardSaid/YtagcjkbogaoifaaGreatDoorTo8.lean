/- Walks: a creature's shape. -/
import Derived.Test.YtagcjkbogaoifaaGreatDoorTo7
import Derived.Test.YtagcjkbogaoifaaGreatDoorCards
import Derived.Test.YtagcjkbogaoifaaGreatDoorTie
import Derived.WalkKit
import Derived.ProofKit
import Derived.OpenShut
import Derived.Deep.DeepHandedRow
import Derived.Lib.LaidTab
import Derived.Carry
import Derived.LaidSub
namespace Go.Proofs.YtagcjkbogaoifaaGreatDoor
open Go Go.AV Go.Proofs.Tryz
set_option maxRecDepth 100000
set_option maxHeartbeats 1000000
/-- A shape: power, toughness, words. -/
structure Sh where
  p : Int
  t : Int
  w : Int
def cSh (x : Sh) : List V := [.int .i64 x.p, .int .i64 x.t, .int .i64 x.w]
structure Sum where
  out : Sh
  more : Sh
def evStep (s : St) (id : Int) (a : Sum) (x : Static) : Sum :=
  if reachesF x s id = false then a
  else if x.doo.op = 24 then ⟨⟨x.doo.n, x.doo.m, a.out.w⟩, a.more⟩
  else if x.doo.op = 10 then ⟨a.out, ⟨a.more.p + x.doo.n, a.more.t + x.doo.m, a.more.w⟩⟩
  else if x.doo.op = 23 then ⟨⟨a.out.p, a.out.t, bitop .or .i64 a.out.w x.doo.n⟩, a.more⟩
  else if x.doo.op = 25 then ⟨⟨a.out.p, a.out.t, bitop .andNot .i64 a.out.w x.doo.n⟩, a.more⟩
  else a
def ev0 (s : St) (id : Int) : Sum :=
  let c := kindF s id
  let o := s.objs.getD id.toNat noObj
  ⟨⟨c.power, c.tough, c.says⟩, ⟨o 7 + o 8, o 7 + o 9, 0⟩⟩
def evSum (s : St) (id : Int) (l : List Static) : Sum := l.foldl (evStep s id) (ev0 s id)
def evalF (s : St) (id : Int) : Sh :=
  let a := evSum s id (staticsF s)
  ⟨a.out.p + a.more.p, a.out.t + a.more.t, bitop .or .i64 a.out.w (s.objs.getD id.toNat noObj 10)⟩
def evUp (s : St) (id : Int) (k : Nat) : Sum := evSum s id ((staticsF s).take k)
def noStat : Static := ⟨0, 0, 0, noEff0⟩
theorem evUp_zero {s : St} {id : Int} : evUp s id 0 = ev0 s id := by simp [evUp, evSum]
theorem evUp_succ {s : St} {id : Int} {k : Nat} (h : k < (staticsF s).length) : evUp s id (k + 1) = evStep s id (evUp s id k) ((staticsF s).getD k noStat) := by
  rw [evUp, List.take_add_one, List.getElem?_eq_getElem h, evSum, Option.toList_some, List.foldl_append, getD_of' h]; rfl
theorem evUp_all {s : St} {id : Int} : evUp s id (staticsF s).length = evSum s id (staticsF s) := by rw [evUp, List.take_length]
def small2 (e : Eff0) : Bool := decide (-1000 ≤ e.n) && decide (e.n ≤ 1000) && decide (-1000 ≤ e.m) && decide (e.m ≤ 1000)
theorem cardF_small : ∀ k : Fin 120, ((cardF (k.val : Int)).abs.all fun a => a.doo.subs.all small2) = true ∧ (-1000 ≤ (cardF (k.val : Int)).power ∧ (cardF (k.val : Int)).power ≤ 1000) ∧ (-1000 ≤ (cardF (k.val : Int)).tough ∧ (cardF (k.val : Int)).tough ≤ 1000) := by decide +kernel
def sm (x y : Int) : Prop := -1000 ≤ x ∧ x ≤ 1000 ∧ -1000 ≤ y ∧ y ≤ 1000
theorem small2_iff {e : Eff0} (h : small2 e = true) : sm e.n e.m := by
  simp only [small2, Bool.and_eq_true, decide_eq_true_eq] at h; exact ⟨h.1.1.1, h.1.1.2, h.1.2, h.2⟩
theorem cardE_small (n : Int) : (∀ a ∈ (cardE n).1.abs, ∀ e ∈ a.doo.subs, sm e.n e.m) ∧ sm (cardE n).1.power (cardE n).1.tough := by
  unfold cardE
  split
  · exact ⟨by simp [noCard], by simp only [noCard, sm]; decide⟩
  · rename_i h
    have := cardF_small ⟨n.toNat, by omega⟩
    have e : ((n.toNat : Nat) : Int) = n := by omega
    simp only [e, List.all_eq_true] at this
    exact ⟨fun a ha x hx => small2_iff (this.1 a ha x hx), this.2.1.1, this.2.1.2, this.2.2.1, this.2.2.2⟩
theorem statics_small {s : St} : ∀ x ∈ staticsF s, sm x.doo.n x.doo.m := by
  intro x hx
  simp only [staticsF, List.mem_flatMap, staticsOf, List.mem_map] at hx
  obtain ⟨id, _, j, hj, rfl⟩ := hx
  obtain ⟨h0, h1, _⟩ := uses_in hj
  have hlt : j.toNat < (kindF s id).abs.length := by omega
  have hpos := static_pos hj
  refine (cardE_small (s.objs.getD id.toNat noObj 0)).1 ((kindF s id).abs.getD j.toNat noAb) ?_ _ ?_
  · rw [getD_of' hlt]; exact List.getElem_mem hlt
  · simp only [staticOf]; rw [getD_of' hpos]; exact List.getElem_mem hpos
def bd (c : Int) (a : Sum) : Prop := sm a.out.p a.out.t ∧ (-c ≤ a.more.p ∧ a.more.p ≤ c ∧ -c ≤ a.more.t ∧ a.more.t ≤ c)
theorem evStep_bd {s : St} {id : Int} {a : Sum} {x : Static} {c : Int} (hc : 0 ≤ c) (h : bd c a) (hx : sm x.doo.n x.doo.m) : bd (c + 1000) (evStep s id a x) := by
  obtain ⟨⟨h1, h2, h3, h4⟩, h5, h6, h7, h8⟩ := h
  obtain ⟨x1, x2, x3, x4⟩ := hx
  unfold evStep
  repeat' split
  all_goals refine ⟨⟨?_, ?_, ?_, ?_⟩, ?_, ?_, ?_, ?_⟩ <;> (try dsimp only) <;> omega
def obd (o : Obj) : Prop := (0 ≤ o 7 ∧ o 7 ≤ 1073741824) ∧ (-1073741824 ≤ o 8 ∧ o 8 ≤ 1073741824) ∧ (-1073741824 ≤ o 9 ∧ o 9 ≤ 1073741824)
theorem ev0_bd {s : St} {id : Int} (h : obd (s.objs.getD id.toNat noObj)) : bd 4294967296 (ev0 s id) := by
  obtain ⟨⟨a, b⟩, ⟨c, d⟩, e, f⟩ := h
  refine ⟨(cardE_small (s.objs.getD id.toNat noObj 0)).2, ?_, ?_, ?_, ?_⟩ <;> simp only [ev0] <;> omega
theorem getD_mem' {α : Type} {z : α} {l : List α} {k : Nat} (h : k < l.length) : l.getD k z ∈ l := by
  rw [getD_of' h]; exact List.getElem_mem h
theorem evUp_bd {s : St} {id : Int} (h : obd (s.objs.getD id.toNat noObj)) (k : Nat) (hk : k ≤ (staticsF s).length) : bd (4294967296 + 1000 * k) (evUp s id k) := by
  induction k with
  | zero => rw [evUp_zero]; exact ev0_bd h
  | succ k ih =>
    rw [evUp_succ hk]
    have := evStep_bd (s := s) (id := id) (x := (staticsF s).getD k noStat) (by omega) (ih (by omega)) (statics_small _ (getD_mem' hk))
    have e : (4294967296 + 1000 * ((k + 1 : Nat) : Int)) = 4294967296 + 1000 * (k : Int) + 1000 := by omega
    rw [e]; exact this
theorem static_elem {l : List Static} {i : Nat} (h : i < l.length) : ((cStatics l).drop (Int.toNat (i : Int) * 8)).take 8 = cStatic (l.getD i noStat) := flat_at (f := cStatic) (n := 8) (fun _ => rfl) noStat (i := i) h

theorem box_under {h : Hp} {i j : Nat} {c d : List V} (n : i ≠ j) (e : h.box j = some c) : (h.setBox i d).box j = some c := by rw [Hp.box_setBox_ne _ _ (Ne.symm n)]; exact e
theorem none_of {h : Hp} {i j : Nat} {c : List V} (e : (h.setBox i c).box j = none) : h.box j = none := by
  by_cases n : j = i
  · subst n; rw [Hp.box_setBox] at e; cases e
  · rwa [Hp.box_setBox_ne _ _ n] at e
theorem swap_mem {h : Hp} {i j : Nat} {a b c : List V} (n : i ≠ j) : ((h.setBox i a).setBox j b).setBox i c = (h.setBox i c).setBox j b := by
  rw [Hp.setBox_comm _ _ _ (Ne.symm n), Hp.setBox_setBox]
theorem fresh_ne {h : Hp} {i j : Nat} {c : List V} (f : (h.setBox i c).fresh j) : i ≠ j := Hp.ne_of_box (Hp.box_setBox _ _ _) f.1
theorem fresh_pair {h : Hp} {i j : Nat} {c d : List V} (fi : h.fresh i) (fj : (h.setBox i c).fresh j) : h.fresh j ∧ (h.setBox j d).fresh i := by
  have hne := fresh_ne fj
  exact ⟨⟨by have := fj.1; rwa [Hp.box_setBox_ne _ _ hne.symm] at this, fj.2⟩, fresh_setBox fi hne⟩
theorem a_storeWA' {P : Program} {G : Nat → Option (List V)} {h : Hp} {o : Oper} {ρ : Operand → V} {t : TypeId} {x y : Operand} (ho : o.op = .store t x y) {n : Nat} (hs : ∀ w, (sizeOf t).run P w = .ok n w) {id : Nat} (hx : ρ x = .ptr id 0) {h0 : Hp} {cs : List V} (hh : h = h0.setBox id cs)
    {ds : List V} (hv : ρ y = .agg ds) (hn : ds.length = n) (hc : cs.length = n) {K : V → Hp → Prop} (k : K .junk (h0.setBox id ds)) : AStep P G o ρ h K := a_storeWA ho hs hx hh hv hn hc k
/-- A store into the variable beneath the last one. -/
theorem a_storeU {P : Program} {G : Nat → Option (List V)} {h : Hp} {o : Oper} {ρ : Operand → V} {t : TypeId} {x y : Operand} {id id2 : Nat} (ho : o.op = .store t x y) {n : Nat} (hs : ∀ w, (sizeOf t).run P w = .ok n w) (hx : ρ x = .ptr id 0) {h0 : Hp} {cs c2 : List V} (hf : (h0.setBox id cs).fresh id2) (hh : h = (h0.setBox id cs).setBox id2 c2)
    {ds : List V} (hv : ρ y = .agg ds) (hn : ds.length = n) (hc : cs.length = n) {K : V → Hp → Prop} (k : K .junk ((h0.setBox id ds).setBox id2 c2)) : AStep P G o ρ h K := by
  have hne := fresh_ne hf
  refine a_storeWA (h0 := h0.setBox id2 c2) ho hs hx (by rw [hh, Hp.setBox_comm _ _ _ hne]) hv hn hc ?_
  rw [← Hp.setBox_comm _ _ _ hne]; exact k

theorem eval_calls (s : St) (i : Int) (hi : 0 ≤ i ∧ i < s.objs.length) (hz : ∀ id ∈ s.lists 8, 0 ≤ id ∧ id < s.objs.length) (hl : (s.lists 8).length ≤ 1000000) (hob : obd (s.objs.getD i.toNat noObj)) (h : Hp) : ACalls prog G 219 [eState s, .int .i64 i] h fun r h' => r = .agg (cSh (evalF s i)) ∧ h' = h := by
  obtain ⟨⟨o7, o7'⟩, ⟨o8, o8'⟩, o9, o9'⟩ := id hob
  have hsl : (staticsF s).length ≤ 10000000 := by rw [← stUp_all]; exact stUp_len hl
  refine ACalls.enter func219 rfl ntmps219 results219 rfl ?_
  refine .seq <|
    .region <|
    .bx rfl rfl ?_
  refine AOps.s rfl rfl rfl (a_alloc rfl zeroValue216 rfl (fun id4 hid4 => ?_))
  refine .nil ?_
  refine AW.cut (fun T h1 => ∃ id5 id6, T = put (put (put (put (put T0 1 (V.int .i64 i)) 2 (V.iptr (cState s))) 4 (V.ptr id4 0)) 5 (V.ptr id5 0)) 6 (V.ptr id6 0) ∧ (h.setBox id4 [.int .i64 0, .int .i64 0, .int .i64 0]).fresh id5 ∧ ((h.setBox id4 [.int .i64 0, .int .i64 0, .int .i64 0]).setBox id5 (cCard (kindF s i))).fresh id6 ∧ h1 = ((h.setBox id4 [.int .i64 0, .int .i64 0, .int .i64 0]).setBox id5 (cCard (kindF s i))).setBox id6 (cObj (s.objs.getD i.toNat noObj))) ?_ ?_
  · skip
    refine AW.draw2 [10, 11] [3, 4, 5, 6, 7] [(0, true), (1, true), (2, true), (3, true), (4, true), (5, true), (6, true), (7, true)] 4 mixed (by kernel_rfl) rfl (by kernel_rfl) ?_
    refine .q rfl rfl rfl rfl (q_load_iW rfl isAgg29 sizeOf29 rfl (by rfl)) ?_
    refine .q rfl rfl rfl rfl (q_mv rfl (rfl : _ = V.int _ _)) ?_
    refine .q rfl rfl rfl rfl (QOp.call rfl (by exact call229) fun h' hl' => by exact kind_calls s i hi h') ?_
    refine .p rfl rfl rfl (fun _ => q_fa_i rfl underlying29 rfl (by exact sizeOf22) (by decide) rfl (rfl : _ = List.drop 0 _)) ?_
    refine .p rfl rfl rfl (fun _ => q_load_i1 rfl isAgg22 rfl rfl) ?_
    refine .p rfl rfl rfl (fun _ => q_mv rfl (rfl : _ = V.int _ _)) ?_
    refine .p rfl rfl rfl (fun _ => q_ia_s rfl underlying22 sizeOf72 rfl rfl hi.1 hi.2 (cObjs_elem' hi.1 hi.2)) ?_
    refine .p rfl rfl rfl (fun _ => q_load_iW rfl isAgg72 sizeOf72 rfl (by rfl)) ?_
    refine AOrd.nil ?_
    refine AAny.two 8 9 (by kernel_rfl) (aOp.new rfl rfl rfl (a_alloc rfl zeroValue44 rfl (fun id5 hid5 => ⟨?_, HLe.setBox hid5.1⟩))) (aOp.new rfl rfl rfl (a_alloc rfl zeroValue72 rfl (fun id6 hid6 => ⟨?_, HLe.setBox hid6.1⟩)))
    · skip
      refine AAny.one 9 (by kernel_rfl) (aOp.new rfl rfl rfl (a_alloc rfl zeroValue72 rfl (fun id6 hid6 => ⟨?_, HLe.setBox hid6.1⟩)))
      refine AAny.one 10 (by kernel_rfl) (aOp.st rfl rfl rfl rfl (a_storeU (id := id5) (id2 := id6) rfl sizeOf44 rfl hid6 rfl (rfl : _ = V.agg _) rfl rfl ?_))
      refine AAny.one 11 (by kernel_rfl) (aOp.st rfl rfl rfl rfl (a_storeWA' rfl sizeOf72 rfl (rfl) (rfl : _ = V.agg _) rfl rfl ?_))
      refine AAny.fin (by kernel_rfl) ?_
      exact Wk.mk (TLe.put (d := 6) (VLe.refl _) (TLe.put (d := 5) (VLe.refl _) (TLe.put (d := 4) (VLe.refl _) (TLe.put (d := 2) (VLe.refl _) (TLe.put (d := 1) (VLe.refl _) (TLe.zero _)))))) (HLe.refl _) ⟨id5, id6, rfl, hid5, Hp.fresh_swap hid6, rfl⟩
    · skip
      refine AAny.one 8 (by kernel_rfl) (aOp.new rfl rfl rfl (a_alloc rfl zeroValue44 rfl (fun id5 hid5 => ⟨?_, HLe.setBox hid5.1⟩)))
      refine AAny.one 10 (by kernel_rfl) (aOp.st rfl rfl rfl rfl (a_storeWA' rfl sizeOf44 rfl (rfl) (rfl : _ = V.agg _) rfl rfl ?_))
      refine AAny.one 11 (by kernel_rfl) (aOp.st rfl rfl rfl rfl (a_storeU (id := id6) (id2 := id5) rfl sizeOf72 rfl (Hp.fresh_swap hid5) rfl (rfl : _ = V.agg _) rfl rfl ?_))
      refine AAny.fin (by kernel_rfl) ?_
      exact Wk.mk (TLe.put (d := 6) (VLe.refl _) (TLe.put (d := 5) (VLe.refl _) (TLe.put (d := 4) (VLe.refl _) (TLe.put (d := 2) (VLe.refl _) (TLe.put (d := 1) (VLe.refl _) (TLe.zero _)))))) (HLe.refl _) ⟨id5, id6, rfl, (fresh_pair (d := []) hid6 hid5).1, (fresh_pair hid6 hid5).2, Hp.setBox_comm _ _ _ (fresh_ne hid5)⟩
  · rintro T h1 ⟨id5, id6, rfl, hid5, hid6, rfl⟩
    refine AW.done 6 rfl hid6 ?_
    refine AW.done 5 rfl hid5 ?_
    refine .seq <|
      .region <|
      .fi rfl f44_9 rfl <|
      .li rfl isAgg3 rfl rfl <|
      .fi rfl f44_10 rfl <|
      .li rfl isAgg3 rfl rfl <|
      .fi rfl f44_11 rfl <|
      .li rfl isAgg3 rfl rfl ?_
    refine .u rfl rfl rfl (q_buildS rfl zeroValue216 underlying216 (pl216 underlying216) rfl rfl) ?_
    refine AOps.s rfl rfl rfl (a_alloc rfl zeroValue216 rfl (fun id7 hid7 => ?_))
    refine .sw sizeOf216 rfl rfl rfl rfl <|
      .nil <|
      .seq <|
      .region ?_
    refine .u rfl rfl rfl (q_ia_ai rfl underlying72 sizeOf3 rfl rfl (by decide) (by decide) rfl) ?_
    refine .li rfl isAgg3 rfl rfl ?_
    refine .u rfl rfl rfl (q_ia_ai rfl underlying72 sizeOf3 rfl rfl (by decide) (by decide) rfl) ?_
    refine .li rfl isAgg3 rfl rfl <|
      .ad rfl rfl rfl (by omega) ?_
    refine .u rfl rfl rfl (q_ia_ai rfl underlying72 sizeOf3 rfl rfl (by decide) (by decide) rfl) ?_
    refine .li rfl isAgg3 rfl rfl ?_
    refine .u rfl rfl rfl (q_ia_ai rfl underlying72 sizeOf3 rfl rfl (by decide) (by decide) rfl) ?_
    refine .li rfl isAgg3 rfl rfl <|
      .ad rfl rfl rfl (by omega) ?_
    refine .u rfl rfl rfl (q_buildS rfl zeroValue216 underlying216 (pl216 underlying216) rfl rfl) ?_
    refine AOps.s rfl rfl rfl (a_alloc rfl zeroValue216 rfl (fun id8 hid8 => ?_))
    refine .sw sizeOf216 rfl rfl rfl rfl <|
      .nil <|
      .seq <|
      .seq <|
      .region <|
      .lw rfl isAgg29 sizeOf29 rfl rfl ?_
    refine .u rfl rfl rfl (QOp.call rfl call230 fun h' hl' => by exact statics_calls s hz hl h') ?_
    refine .ln rfl underlying240 rfl <|
      .mI rfl rfl <|
      .nil <|
      .block ?_
    refine AW.loop (fun n T hh => ∃ (k : Nat) , k ≤ (staticsF s).length ∧ n = (staticsF s).length - k ∧ T = put (put (put (put (put (put (put (put (put (T0) 40 (V.int .i64 (k : Nat))) 39 (V.int .i64 (staticsF s).length)) 38 (V.sl .imm 8 (staticsF s).length (cStatics (staticsF s)))) 8 (V.ptr id8 0)) 7 (V.ptr id7 0)) 6 (V.iptr (cObj (s.objs.getD i.toNat noObj)))) 4 (V.ptr id4 0)) 2 (V.iptr (cState s))) 1 (V.int .i64 i) ∧ hh = ((h.setBox id4 [V.int .i64 0, V.int .i64 0, V.int .i64 0]).setBox id7 (cSh (evUp s i k).out)).setBox id8 (cSh (evUp s i k).more)) ((staticsF s).length) ?_ ?_
    · skip
      refine Wk.mk (TLe.put (d := 1) (VLe.refl _) (TLe.put (d := 2) (VLe.refl _) (TLe.put (d := 4) (VLe.refl _) (TLe.put (d := 6) (VLe.refl _) (TLe.put (d := 7) (VLe.refl _) (TLe.put (d := 8) (VLe.refl _) (TLe.put (d := 38) (VLe.refl _) (TLe.put (d := 39) (VLe.refl _) (TLe.put (d := 40) (by exact VLe.of_eq (congrArg (V.int .i64) (by first | rfl | omega))) (TLe.zero _)))))))))) (HLe.refl _) ⟨0, Nat.zero_le _, rfl, rfl, by rw [evUp_zero]; rfl⟩
    · skip
      rintro n T h' ⟨k, hk, rfl, rfl, rfl⟩
      refine .seq <|
        .region <|
        .ql rfl rfl rfl <|
        .nil <|
        .seq ?_
      refine AW.cond rfl (fun c0 => ?_) (fun c0 => ?_)
      · have hltk : k < (staticsF s).length := by have := of_decide_eq_true c0; omega
        have hx := statics_small _ (getD_mem' (z := noStat) hltk)
        obtain ⟨x1, x2, x3, x4⟩ := hx
        obtain ⟨⟨q1, q2, q3, q4⟩, q5, q6, q7, q8⟩ := evUp_bd hob k hk
        have n78 := fresh_ne hid8
        refine AW.skip ?_
        refine .seq <|
          .block <|
          .seq <|
          .region ?_
        refine .u rfl rfl rfl (q_ia_s rfl underlying240 sizeOf243 rfl rfl (by omega) (by omega) (static_elem hltk)) ?_
        refine .lw rfl isAgg243 sizeOf243 rfl rfl ?_
        refine AOps.s rfl rfl rfl (a_alloc rfl zeroValue243 rfl (fun id10 hid10 => ?_))
        refine .sw sizeOf243 rfl rfl rfl rfl ?_
        refine AOps.done 10 rfl hid10 ?_
        refine .nil <|
          .seq <|
          .seq <|
          .region <|
          .lw rfl isAgg243 sizeOf243 rfl rfl <|
          .lw rfl isAgg29 sizeOf29 rfl rfl <|
          .mI rfl rfl ?_
        refine .u rfl rfl rfl (QOp.call rfl call231 fun h' hl' => by exact reaches_calls _ _ _ (by omega) h') ?_
        refine .nt rfl rfl <|
          .nil ?_
        refine AW.cond rfl (fun c1 => ?_) (fun c1 => ?_)
        · have e1 : reachesF ((staticsF s).getD k noStat) s i = false := by simpa using c1
          have he : evStep s i (evUp s i k) ((staticsF s).getD k noStat) = (evUp s i k) := by simp [-List.getD_eq_getElem?_getD, evStep, e1]
          refine AW.exit ?_
          refine .region <|
            .ad rfl rfl rfl (by omega) <|
            .mI rfl rfl <|
            .nil ?_
          refine Wk.mk (TLe.put (d := 1) (VLe.refl _) (TLe.put (d := 2) (VLe.refl _) (TLe.put (d := 4) (VLe.refl _) (TLe.put (d := 6) (VLe.refl _) (TLe.put (d := 7) (VLe.refl _) (TLe.put (d := 8) (VLe.refl _) (TLe.put (d := 38) (VLe.refl _) (TLe.put (d := 39) (VLe.refl _) (TLe.put (d := 40) (by exact VLe.of_eq (congrArg (V.int .i64) (by first | rfl | omega))) (TLe.zero _)))))))))) (HLe.refl _) ⟨_, ?_, k + 1, ?_, rfl, rfl, by rw [evUp_succ hltk, he]; all_goals first | rfl | exact swap_mem n78 | (simp only [Hp.setBox_setBox]; first | rfl | exact swap_mem n78)⟩
          · omega
          · omega
        · have e1 : reachesF ((staticsF s).getD k noStat) s i = true := by simpa using c1
          refine AW.skip ?_
          refine .seq <|
            .region <|
            .fi rfl f243_3 rfl <|
            .fi rfl f36_0 rfl <|
            .li rfl isAgg3 rfl rfl <|
            .nil <|
            .block <|
            .seq <|
            .region <|
            .qe rfl rfl rfl <|
            .aB rfl rfl <|
            .nil ?_
          refine AW.cond rfl (fun c2 => ?_) (fun c2 => ?_)
          · have e2 : ((staticsF s).getD k noStat).doo.op = 24 := of_decide_eq_true c2
            have he : evStep s i (evUp s i k) ((staticsF s).getD k noStat) = ⟨⟨((staticsF s).getD k noStat).doo.n, ((staticsF s).getD k noStat).doo.m, (evUp s i k).out.w⟩, (evUp s i k).more⟩ := by simp [-List.getD_eq_getElem?_getD, evStep, e1, e2]
            refine AW.draw [7, 9] [3, 4, 5] [(0, true), (1, true), (2, true), (3, true), (4, true), (5, true), (6, true), (7, false), (8, true), (9, false)] mixed (by kernel_rfl) rfl (by kernel_rfl) ?_
            refine .q rfl rfl rfl rfl (q_fa_i rfl underlying243 rfl (by exact sizeOf36) (by decide) rfl (rfl : _ = List.drop 3 _)) ?_
            refine .q rfl rfl rfl rfl (q_fa_i rfl underlying36 rfl (by exact sizeOf3) (by decide) rfl (rfl : _ = List.drop 1 _)) ?_
            refine .q rfl rfl rfl rfl (q_load_i1 rfl isAgg3 rfl rfl) ?_
            refine .p rfl rfl rfl (fun _ => q_fa_i rfl underlying243 rfl (by exact sizeOf36) (by decide) rfl (rfl : _ = List.drop 3 _)) ?_
            refine .p rfl rfl rfl (fun _ => q_fa_i rfl underlying36 rfl (by exact sizeOf3) (by decide) rfl (rfl : _ = List.drop 2 _)) ?_
            refine .p rfl rfl rfl (fun _ => q_load_i1 rfl isAgg3 rfl rfl) ?_
            refine .q rfl rfl rfl rfl (q_fa_b rfl underlying216 rfl (by exact sizeOf3) (by decide) rfl (rfl : _ = 0)) ?_
            refine AOrd.s0 rfl rfl rfl rfl (a_store1 rfl sizeOf3 rfl ((by first | exact Hp.box_setBox _ _ _ | exact box_under n78.symm (Hp.box_setBox _ _ _) | exact box_under n48.symm (box_under n47.symm (Hp.box_setBox _ _ _)))) (rfl : _ = V.int _ _) rfl rfl (by first | decide | exact Nat.le_of_ble_eq_true rfl) ?_)
            refine .q rfl rfl rfl rfl (q_fa_b rfl underlying216 rfl (by exact sizeOf3) (by decide) rfl (rfl : _ = 1)) ?_
            refine AOrd.s0 rfl rfl rfl rfl (a_store1 rfl sizeOf3 rfl ((by first | exact Hp.box_setBox _ _ _ | exact box_under n78.symm (Hp.box_setBox _ _ _) | exact box_under n48.symm (box_under n47.symm (Hp.box_setBox _ _ _)))) (rfl : _ = V.int _ _) rfl rfl (by first | decide | exact Nat.le_of_ble_eq_true rfl) ?_)
            refine AOrd.nil ?_
            refine .region <|
              .ad rfl rfl rfl (by omega) <|
              .mI rfl rfl <|
              .nil ?_
            refine Wk.mk (TLe.put (d := 1) (VLe.refl _) (TLe.put (d := 2) (VLe.refl _) (TLe.put (d := 4) (VLe.refl _) (TLe.put (d := 6) (VLe.refl _) (TLe.put (d := 7) (VLe.refl _) (TLe.put (d := 8) (VLe.refl _) (TLe.put (d := 38) (VLe.refl _) (TLe.put (d := 39) (VLe.refl _) (TLe.put (d := 40) (by exact VLe.of_eq (congrArg (V.int .i64) (by first | rfl | omega))) (TLe.zero _)))))))))) (HLe.refl _) ⟨_, ?_, k + 1, ?_, rfl, rfl, by rw [evUp_succ hltk, he]; all_goals first | rfl | exact swap_mem n78 | (simp only [Hp.setBox_setBox]; first | rfl | exact swap_mem n78)⟩
            · omega
            · omega
          · have e2 : ¬ ((staticsF s).getD k noStat).doo.op = 24 := of_decide_eq_false c2
            refine .seq <|
              .region <|
              .qe rfl rfl rfl <|
              .aB rfl rfl <|
              .nil ?_
            refine AW.cond rfl (fun c3 => ?_) (fun c3 => ?_)
            · have e3 : ((staticsF s).getD k noStat).doo.op = 10 := of_decide_eq_true c3
              have he : evStep s i (evUp s i k) ((staticsF s).getD k noStat) = ⟨(evUp s i k).out, ⟨(evUp s i k).more.p + ((staticsF s).getD k noStat).doo.n, (evUp s i k).more.t + ((staticsF s).getD k noStat).doo.m, (evUp s i k).more.w⟩⟩ := by simp [-List.getD_eq_getElem?_getD, evStep, e1, e3]
              refine .seq <|
                .region <|
                .fb rfl f216_0 rfl rfl ?_
              refine .u rfl rfl rfl (q_load_b1 rfl isAgg3 rfl ((by first | exact Hp.box_setBox _ _ _ | exact box_under n78.symm (Hp.box_setBox _ _ _) | exact box_under n48.symm (box_under n47.symm (Hp.box_setBox _ _ _)))) rfl) ?_
              refine .fi rfl f243_3 rfl <|
                .fi rfl f36_1 rfl <|
                .li rfl isAgg3 rfl rfl <|
                .ad rfl rfl rfl (by omega) <|
                .fb rfl f216_0 rfl rfl ?_
              refine AOps.s0 rfl rfl (a_store1 rfl sizeOf3 rfl ((by first | exact Hp.box_setBox _ _ _ | exact box_under n78.symm (Hp.box_setBox _ _ _) | exact box_under n48.symm (box_under n47.symm (Hp.box_setBox _ _ _)))) (rfl : _ = V.int _ _) rfl rfl (by first | decide | exact Nat.le_of_ble_eq_true rfl) ?_)
              refine .nil <|
                .region <|
                .fb rfl f216_1 rfl rfl ?_
              refine .u rfl rfl rfl (q_load_b1 rfl isAgg3 rfl ((by first | exact Hp.box_setBox _ _ _ | exact box_under n78.symm (Hp.box_setBox _ _ _) | exact box_under n48.symm (box_under n47.symm (Hp.box_setBox _ _ _)))) rfl) ?_
              refine .fi rfl f243_3 rfl <|
                .fi rfl f36_2 rfl <|
                .li rfl isAgg3 rfl rfl <|
                .ad rfl rfl rfl (by omega) <|
                .fb rfl f216_1 rfl rfl ?_
              refine AOps.s0 rfl rfl (a_store1 rfl sizeOf3 rfl ((by first | exact Hp.box_setBox _ _ _ | exact box_under n78.symm (Hp.box_setBox _ _ _) | exact box_under n48.symm (box_under n47.symm (Hp.box_setBox _ _ _)))) (rfl : _ = V.int _ _) rfl rfl (by first | decide | exact Nat.le_of_ble_eq_true rfl) ?_)
              refine .nil <|
                .region <|
                .ad rfl rfl rfl (by omega) <|
                .mI rfl rfl <|
                .nil ?_
              refine Wk.mk (TLe.put (d := 1) (VLe.refl _) (TLe.put (d := 2) (VLe.refl _) (TLe.put (d := 4) (VLe.refl _) (TLe.put (d := 6) (VLe.refl _) (TLe.put (d := 7) (VLe.refl _) (TLe.put (d := 8) (VLe.refl _) (TLe.put (d := 38) (VLe.refl _) (TLe.put (d := 39) (VLe.refl _) (TLe.put (d := 40) (by exact VLe.of_eq (congrArg (V.int .i64) (by first | rfl | omega))) (TLe.zero _)))))))))) (HLe.refl _) ⟨_, ?_, k + 1, ?_, rfl, rfl, by rw [evUp_succ hltk, he]; all_goals first | rfl | exact swap_mem n78 | (simp only [Hp.setBox_setBox]; first | rfl | exact swap_mem n78)⟩
              · omega
              · omega
            · have e3 : ¬ ((staticsF s).getD k noStat).doo.op = 10 := of_decide_eq_false c3
              refine .seq <|
                .region <|
                .qe rfl rfl rfl <|
                .aB rfl rfl <|
                .nil ?_
              refine AW.cond rfl (fun c4 => ?_) (fun c4 => ?_)
              · have e4 : ((staticsF s).getD k noStat).doo.op = 23 := of_decide_eq_true c4
                have he : evStep s i (evUp s i k) ((staticsF s).getD k noStat) = ⟨⟨(evUp s i k).out.p, (evUp s i k).out.t, bitop .or .i64 (evUp s i k).out.w ((staticsF s).getD k noStat).doo.n⟩, (evUp s i k).more⟩ := by simp [-List.getD_eq_getElem?_getD, evStep, e1, e4]
                refine .region <|
                  .fb rfl f216_2 rfl rfl ?_
                refine .u rfl rfl rfl (q_load_b1 rfl isAgg3 rfl ((by first | exact Hp.box_setBox _ _ _ | exact box_under n78.symm (Hp.box_setBox _ _ _) | exact box_under n48.symm (box_under n47.symm (Hp.box_setBox _ _ _)))) rfl) ?_
                refine .fi rfl f243_3 rfl <|
                  .fi rfl f36_1 rfl <|
                  .li rfl isAgg3 rfl rfl ?_
                refine .u rfl rfl rfl (q_bit rfl rfl rfl rfl) ?_
                refine .fb rfl f216_2 rfl rfl ?_
                refine AOps.s0 rfl rfl (a_store1 rfl sizeOf3 rfl ((by first | exact Hp.box_setBox _ _ _ | exact box_under n78.symm (Hp.box_setBox _ _ _) | exact box_under n48.symm (box_under n47.symm (Hp.box_setBox _ _ _)))) (rfl : _ = V.int _ _) rfl rfl (by first | decide | exact Nat.le_of_ble_eq_true rfl) ?_)
                refine .nil <|
                  .region <|
                  .ad rfl rfl rfl (by omega) <|
                  .mI rfl rfl <|
                  .nil ?_
                refine Wk.mk (TLe.put (d := 1) (VLe.refl _) (TLe.put (d := 2) (VLe.refl _) (TLe.put (d := 4) (VLe.refl _) (TLe.put (d := 6) (VLe.refl _) (TLe.put (d := 7) (VLe.refl _) (TLe.put (d := 8) (VLe.refl _) (TLe.put (d := 38) (VLe.refl _) (TLe.put (d := 39) (VLe.refl _) (TLe.put (d := 40) (by exact VLe.of_eq (congrArg (V.int .i64) (by first | rfl | omega))) (TLe.zero _)))))))))) (HLe.refl _) ⟨_, ?_, k + 1, ?_, rfl, rfl, by rw [evUp_succ hltk, he]; all_goals first | rfl | exact swap_mem n78 | (simp only [Hp.setBox_setBox]; first | rfl | exact swap_mem n78)⟩
                · omega
                · omega
              · have e4 : ¬ ((staticsF s).getD k noStat).doo.op = 23 := of_decide_eq_false c4
                refine .seq <|
                  .region <|
                  .qe rfl rfl rfl <|
                  .aB rfl rfl <|
                  .nil ?_
                refine AW.cond rfl (fun c5 => ?_) (fun c5 => ?_)
                · have e5 : ((staticsF s).getD k noStat).doo.op = 25 := of_decide_eq_true c5
                  have he : evStep s i (evUp s i k) ((staticsF s).getD k noStat) = ⟨⟨(evUp s i k).out.p, (evUp s i k).out.t, bitop .andNot .i64 (evUp s i k).out.w ((staticsF s).getD k noStat).doo.n⟩, (evUp s i k).more⟩ := by simp [-List.getD_eq_getElem?_getD, evStep, e1, e5]
                  refine .region <|
                    .fb rfl f216_2 rfl rfl ?_
                  refine .u rfl rfl rfl (q_load_b1 rfl isAgg3 rfl ((by first | exact Hp.box_setBox _ _ _ | exact box_under n78.symm (Hp.box_setBox _ _ _) | exact box_under n48.symm (box_under n47.symm (Hp.box_setBox _ _ _)))) rfl) ?_
                  refine .fi rfl f243_3 rfl <|
                    .fi rfl f36_1 rfl <|
                    .li rfl isAgg3 rfl rfl ?_
                  refine .u rfl rfl rfl (q_bit rfl rfl rfl rfl) ?_
                  refine .fb rfl f216_2 rfl rfl ?_
                  refine AOps.s0 rfl rfl (a_store1 rfl sizeOf3 rfl ((by first | exact Hp.box_setBox _ _ _ | exact box_under n78.symm (Hp.box_setBox _ _ _) | exact box_under n48.symm (box_under n47.symm (Hp.box_setBox _ _ _)))) (rfl : _ = V.int _ _) rfl rfl (by first | decide | exact Nat.le_of_ble_eq_true rfl) ?_)
                  refine .nil <|
                    .region <|
                    .ad rfl rfl rfl (by omega) <|
                    .mI rfl rfl <|
                    .nil ?_
                  refine Wk.mk (TLe.put (d := 1) (VLe.refl _) (TLe.put (d := 2) (VLe.refl _) (TLe.put (d := 4) (VLe.refl _) (TLe.put (d := 6) (VLe.refl _) (TLe.put (d := 7) (VLe.refl _) (TLe.put (d := 8) (VLe.refl _) (TLe.put (d := 38) (VLe.refl _) (TLe.put (d := 39) (VLe.refl _) (TLe.put (d := 40) (by exact VLe.of_eq (congrArg (V.int .i64) (by first | rfl | omega))) (TLe.zero _)))))))))) (HLe.refl _) ⟨_, ?_, k + 1, ?_, rfl, rfl, by rw [evUp_succ hltk, he]; all_goals first | rfl | exact swap_mem n78 | (simp only [Hp.setBox_setBox]; first | rfl | exact swap_mem n78)⟩
                  · omega
                  · omega
                · have e5 : ¬ ((staticsF s).getD k noStat).doo.op = 25 := of_decide_eq_false c5
                  have he : evStep s i (evUp s i k) ((staticsF s).getD k noStat) = (evUp s i k) := by simp [-List.getD_eq_getElem?_getD, evStep, e1, e2, e3, e4, e5]
                  refine AW.skip ?_
                  refine .region <|
                    .ad rfl rfl rfl (by omega) <|
                    .mI rfl rfl <|
                    .nil ?_
                  refine Wk.mk (TLe.put (d := 1) (VLe.refl _) (TLe.put (d := 2) (VLe.refl _) (TLe.put (d := 4) (VLe.refl _) (TLe.put (d := 6) (VLe.refl _) (TLe.put (d := 7) (VLe.refl _) (TLe.put (d := 8) (VLe.refl _) (TLe.put (d := 38) (VLe.refl _) (TLe.put (d := 39) (VLe.refl _) (TLe.put (d := 40) (by exact VLe.of_eq (congrArg (V.int .i64) (by first | rfl | omega))) (TLe.zero _)))))))))) (HLe.refl _) ⟨_, ?_, k + 1, ?_, rfl, rfl, by rw [evUp_succ hltk, he]; all_goals first | rfl | exact swap_mem n78 | (simp only [Hp.setBox_setBox]; first | rfl | exact swap_mem n78)⟩
                  · omega
                  · omega
      · obtain rfl : k = (staticsF s).length := by have := of_decide_eq_false c0; omega
        have hbd := evUp_bd hob _ (Nat.le_refl _)
        rw [evUp_all] at hbd ⊢
        obtain ⟨⟨q1, q2, q3, q4⟩, q5, q6, q7, q8⟩ := hbd
        have n78 := fresh_ne hid8
        have n47 := fresh_ne hid7
        have n48 : id4 ≠ id8 := Hp.ne_of_box (box_under n47.symm (Hp.box_setBox _ _ _)) hid8.1
        refine AW.exit ?_
        refine .seq <|
          .region <|
          .fb rfl f216_0 rfl rfl ?_
        refine .u rfl rfl rfl (q_load_b1 rfl isAgg3 rfl ((by first | exact Hp.box_setBox _ _ _ | exact box_under n78.symm (Hp.box_setBox _ _ _) | exact box_under n48.symm (box_under n47.symm (Hp.box_setBox _ _ _)))) rfl) ?_
        refine .fb rfl f216_0 rfl rfl ?_
        refine .u rfl rfl rfl (q_load_b1 rfl isAgg3 rfl ((by first | exact Hp.box_setBox _ _ _ | exact box_under n78.symm (Hp.box_setBox _ _ _) | exact box_under n48.symm (box_under n47.symm (Hp.box_setBox _ _ _)))) rfl) ?_
        refine .ad rfl rfl rfl (by omega) <|
          .fb rfl f216_1 rfl rfl ?_
        refine .u rfl rfl rfl (q_load_b1 rfl isAgg3 rfl ((by first | exact Hp.box_setBox _ _ _ | exact box_under n78.symm (Hp.box_setBox _ _ _) | exact box_under n48.symm (box_under n47.symm (Hp.box_setBox _ _ _)))) rfl) ?_
        refine .fb rfl f216_1 rfl rfl ?_
        refine .u rfl rfl rfl (q_load_b1 rfl isAgg3 rfl ((by first | exact Hp.box_setBox _ _ _ | exact box_under n78.symm (Hp.box_setBox _ _ _) | exact box_under n48.symm (box_under n47.symm (Hp.box_setBox _ _ _)))) rfl) ?_
        refine .ad rfl rfl rfl (by omega) <|
          .fb rfl f216_2 rfl rfl ?_
        refine .u rfl rfl rfl (q_load_b1 rfl isAgg3 rfl ((by first | exact Hp.box_setBox _ _ _ | exact box_under n78.symm (Hp.box_setBox _ _ _) | exact box_under n48.symm (box_under n47.symm (Hp.box_setBox _ _ _)))) rfl) ?_
        refine .u rfl rfl rfl (q_ia_ai rfl underlying72 sizeOf3 rfl rfl (by decide) (by decide) rfl) ?_
        refine .li rfl isAgg3 rfl rfl ?_
        refine .u rfl rfl rfl (q_bit rfl rfl rfl rfl) ?_
        refine .u rfl rfl rfl (q_buildS rfl zeroValue216 underlying216 (pl216 underlying216) rfl rfl) ?_
        refine AOps.s0 rfl rfl (a_storeA rfl sizeOf216 rfl ((by first | exact Hp.box_setBox _ _ _ | exact box_under n78.symm (Hp.box_setBox _ _ _) | exact box_under n48.symm (box_under n47.symm (Hp.box_setBox _ _ _)))) (rfl : _ = V.agg _) rfl (by first | decide | exact Nat.le_of_ble_eq_true rfl) ?_)
        refine .nil ?_
        refine AW.ret ?_
        exact retQ.mk' (Res.cellB isAgg216 sizeOf216 rfl (by exact bsb) rfl) (VLe.refl _) (HLe.over (HLe.over (HLe.over (HLe.over (HLe.refl _) hid4.1) (none_of hid7.1)) (none_of (none_of hid8.1))) hid4.1) ⟨rfl, rfl⟩

end Go.Proofs.YtagcjkbogaoifaaGreatDoor
/- Walks: what is left of a creature; what is dying. -/
namespace Go.Proofs.YtagcjkbogaoifaaGreatDoor
open Go Go.AV Go.Proofs.Tryz
set_option maxRecDepth 100000
set_option maxHeartbeats 1000000
theorem right_parts {s : St} (h : checkF s = 0) : s.objs.length ≤ 400 ∧ rangesF s = true ∧ zonesF s = true ∧ ∀ o ∈ s.objs, formedF o = true := by
  unfold checkF at h
  split at h
  · cases h
  split at h
  · cases h
  split at h
  · cases h
  split at h
  · cases h
  rename_i a b c d
  refine ⟨by omega, by simpa using b, by simpa using c, fun o ho => ?_⟩
  simp only [List.any_eq_true, not_exists, not_and] at d
  have := d o ho; simpa using this
theorem right_ids {s : St} (h : zonesF s = true) {z : Nat} (hz : z < 11) : ∀ id ∈ s.lists z, 0 ≤ id ∧ id < s.objs.length ∧ objAt s id 3 = z ∧ standsF (objAt s id) z = true := by
  simp only [zonesF, Bool.and_eq_true, List.all_eq_true, List.mem_range] at h
  intro id hid
  have := h.1.1 z hz id hid
  simp only [standsAt, Bool.and_eq_true, beq_iff_eq] at this
  obtain ⟨⟨a, b⟩, c⟩ := this
  have : 0 ≤ id ∧ id < s.objs.length := by simpa [inN] using a
  exact ⟨this.1, this.2, b, c⟩
theorem right_obj {s : St} (h : rangesF s = true) {i : Nat} (hi : i < s.objs.length) (f : Nat) (hf : f < 18) : oLo s.objs.length f ≤ s.objs.getD i noObj f ∧ s.objs.getD i noObj f ≤ oHi s.objs.length f := by
  simp only [rangesF, Bool.and_eq_true] at h
  have := (List.all_eq_true.1 h.1.1) _ (getD_mem' (z := noObj) hi)
  have := (all_up.1 this) f hf
  simpa [inB] using this
theorem right_obd {s : St} (h : rangesF s = true) {i : Int} (hi : 0 ≤ i ∧ i < s.objs.length) : obd (s.objs.getD i.toNat noObj) :=
  have hl : i.toNat < s.objs.length := by omega
  ⟨right_obj h hl 7 (by decide), right_obj h hl 8 (by decide), right_obj h hl 9 (by decide)⟩
theorem creature_in {s : St} {i : Int} (h : creatureF s i = true) : 0 ≤ i ∧ i < s.objs.length := by
  simp only [creatureF, Bool.and_eq_true] at h; simpa [inN] using h.1.1
def ofF (s : St) (i : Int) : Sh × Int := if checkF s ≠ 0 then (⟨0, 0, 0⟩, checkF s) else if creatureF s i = false then (⟨0, 0, 0⟩, 4) else (evalF s i, 0)
theorem of_ok {s : St} {i : Int} (h : (ofF s i).2 = 0) : checkF s = 0 ∧ creatureF s i = true ∧ ofF s i = (evalF s i, 0) := by
  unfold ofF at *
  split at h
  · rename_i a; exact absurd h a
  split at h
  · cases h
  · rename_i a b; exact ⟨by omega, by simpa using b, by rw [if_neg a, if_neg b]⟩
def leftF (s : St) (i : Int) : Int × Int := if (ofF s i).2 ≠ 0 then (0, (ofF s i).2) else ((ofF s i).1.t - s.objs.getD i.toNat noObj 6, 0)
def dies (s : St) (id : Int) : Bool := (leftF s id).2 == 0 && decide ((leftF s id).1 ≤ 0)
def dyingUp (s : St) (i : Nat) : List Int := ((s.lists 8).take i).filter (dies s)
/-- What is dying. -/
def dyingF (s : St) : List Int := (s.lists 8).filter (dies s)
theorem dying_all {s : St} : dyingUp s (s.lists 8).length = dyingF s := by simp [dyingUp, dyingF]
theorem dying_step {s : St} {i : Nat} (h : i < (s.lists 8).length) : dyingUp s (i + 1) = dyingUp s i ++ if dies s ((s.lists 8).getD i 0) then [(s.lists 8).getD i 0] else [] := by
  rw [dyingUp, List.take_add_one, List.getElem?_eq_getElem h, getD_of h, Option.toList_some, List.filter_append, dyingUp]; simp only [List.filter_cons, List.filter_nil]
theorem dying_yes {s : St} {i : Nat} (h : i < (s.lists 8).length) (c : dies s ((s.lists 8).getD i 0) = true) : dyingUp s (i + 1) = dyingUp s i ++ [(s.lists 8).getD i 0] := by rw [dying_step h, if_pos c]
theorem dying_no {s : St} {i : Nat} (h : i < (s.lists 8).length) (c : dies s ((s.lists 8).getD i 0) = false) : dyingUp s (i + 1) = dyingUp s i := by rw [dying_step h, if_neg (by simp [-List.getD_eq_getElem?_getD, c]), List.append_nil]
theorem dying_le {s : St} {i : Nat} : (dyingUp s i).length ≤ (s.lists 8).length := Nat.le_trans (List.length_filter_le _ _) (by rw [List.length_take]; omega)
def quietF (s : St) : Bool := s.game 6 != 0 || (resultF s == 0 && ((dyingF s).length : Int) == 0)
theorem of_calls (s : St) (i : Int) (hb : s.objs.length ≤ 1000000) (hl : ∀ z, (s.lists z).length ≤ 1000000) (h : Hp) : ACalls prog G 201 [eState s, .int .i64 i] h fun r h' => r = .tup [.agg (cSh (ofF s i).1), eE (ofF s i).2] ∧ h' = h := by
  refine ACalls.enter func201 rfl ntmps201 results201 rfl ?_
  refine .seq <|
    .region <|
    .bx rfl rfl ?_
  refine AOps.s rfl rfl rfl (a_alloc rfl zeroValue216 rfl (fun id4 hid4 => ?_))
  refine .u rfl rfl rfl (q_as rfl (rfl : _ = V.inil)) ?_
  refine .nil <|
    .seq <|
    .seq <|
    .region <|
    .lw rfl isAgg29 sizeOf29 rfl rfl ?_
  refine .u rfl rfl rfl (QOp.call rfl call36 fun h' hl' => by exact check_calls _ (by assumption) (by assumption) h') ?_
  refine .u rfl rfl rfl (q_as rfl (rfl : _ = eErr _ _)) ?_
  refine .nil <|
    .seq <|
    .region ?_
  refine .u rfl rfl rfl (q_mv rfl (rfl : _ = eErr _ _)) ?_
  refine .u rfl rfl rfl (q_neerr underlying58 rfl rfl) ?_
  refine .nil ?_
  refine AW.cond rfl (fun c0 => ?_) (fun c0 => ?_)
  · skip
    refine .seq <|
      .region ?_
    refine .u rfl rfl rfl (q_buildS rfl zeroValue216 underlying216 (pl216 underlying216) rfl rfl) ?_
    refine .u rfl rfl rfl (q_mv rfl (rfl : _ = eErr _ _)) ?_
    refine .sw sizeOf216 rfl rfl rfl rfl ?_
    refine .u rfl rfl rfl (q_as rfl (rfl : _ = eErr _ _)) ?_
    refine .nil ?_
    refine AW.ret ?_
    exact retQ.mk' (Res.cellB1 isAgg216 sizeOf216 rfl (by exact bsb) rfl) (VLe.of_eq (by rw [show ofF s i = (⟨0, 0, 0⟩, checkF s) by rw [ofF, if_pos (by simpa using c0)]]; rfl)) (HLe.setBox hid4.1) ⟨rfl, rfl⟩
  · skip
    refine AW.skip ?_
    refine .seq <|
      .seq <|
      .region <|
      .lw rfl isAgg29 sizeOf29 rfl rfl <|
      .mI rfl rfl ?_
    refine .u rfl rfl rfl (QOp.call rfl call218 fun h' hl' => by exact creature_calls _ _ h') ?_
    refine .nt rfl rfl <|
      .nil ?_
    refine AW.cond rfl (fun c1 => ?_) (fun c1 => ?_)
    · skip
      refine .seq <|
        .region ?_
      refine .u rfl rfl rfl (q_buildS rfl zeroValue216 underlying216 (pl216 underlying216) rfl rfl) ?_
      refine .u rfl rfl rfl (q_iface rfl underlying97 rfl) ?_
      refine .sw sizeOf216 rfl rfl rfl rfl ?_
      refine .u rfl rfl rfl (q_as rfl (rfl : _ = V.iface _ _)) ?_
      refine .nil ?_
      refine AW.ret ?_
      exact retQ.mk' (Res.cellB1 isAgg216 sizeOf216 rfl (by exact bsb) rfl) (VLe.of_eq (by rw [show ofF s i = (⟨0, 0, 0⟩, 4) by rw [ofF, if_neg (by simpa using c0), if_pos (by simpa using c1)]]; rw [show eE 4 = V.iface _ _ from eErr_ne (by decide)]; rfl)) (HLe.setBox hid4.1) ⟨rfl, rfl⟩
    · have hc0 : checkF s = 0 := by simpa using c0
      have hcr : creatureF s i = true := by simpa using c1
      obtain ⟨p1, p2, p3, p4⟩ := right_parts hc0
      have hi := creature_in hcr
      refine AW.skip ?_
      refine .seq <|
        .region <|
        .lw rfl isAgg29 sizeOf29 rfl rfl <|
        .mI rfl rfl ?_
      refine .u rfl rfl rfl (QOp.call rfl call219 fun h' hl' => by exact eval_calls s i hi (fun id hid => ⟨(right_ids p3 (by decide) id hid).1, (right_ids p3 (by decide) id hid).2.1⟩) (hl 8) (right_obd p2 hi) h') ?_
      refine .sw sizeOf216 rfl rfl rfl rfl ?_
      refine .u rfl rfl rfl (q_as rfl (rfl : _ = V.inil)) ?_
      refine .nil ?_
      refine AW.ret ?_
      exact retQ.mk' (Res.cellB1 isAgg216 sizeOf216 rfl (by exact bsb) rfl) (VLe.of_eq (by rw [show ofF s i = (evalF s i, 0) by rw [ofF, if_neg (by simpa using c0), if_neg (by rw [hcr]; decide)]]; rw [show eE 0 = V.inil from eErr_zero _]; rfl)) (HLe.setBox hid4.1) ⟨rfl, rfl⟩

theorem left_calls (s : St) (i : Int) (hb : s.objs.length ≤ 1000000) (hl : ∀ z, (s.lists z).length ≤ 1000000) (h : Hp) : ACalls prog G 184 [eState s, .int .i64 i] h fun r h' => r = .tup [.int .i64 (leftF s i).1, eE (leftF s i).2] ∧ h' = h := by
  refine ACalls.enter func184 rfl ntmps184 results184 rfl ?_
  refine .seq <|
    .region <|
    .bx rfl rfl <|
    .aI rfl rfl ?_
  refine .u rfl rfl rfl (q_as rfl (rfl : _ = V.inil)) ?_
  refine .nil <|
    .seq <|
    .region <|
    .lw rfl isAgg29 sizeOf29 rfl rfl <|
    .mI rfl rfl ?_
  refine .u rfl rfl rfl (QOp.call rfl call201 fun h' hl' => by exact of_calls _ _ (by assumption) (by assumption) h') ?_
  refine .u rfl rfl rfl (q_mv rfl (rfl : _ = V.tup _)) ?_
  refine .u rfl rfl rfl (q_extract rfl rfl rfl) ?_
  refine .u rfl rfl rfl (q_extract rfl rfl rfl) ?_
  refine AOps.s rfl rfl rfl (a_alloc rfl zeroValue216 rfl (fun id6 hid6 => ?_))
  refine .sw sizeOf216 rfl rfl rfl rfl ?_
  refine AOps.done 6 rfl hid6 ?_
  refine .u rfl rfl rfl (q_as rfl (rfl : _ = eErr _ _)) ?_
  refine .nil <|
    .seq <|
    .seq <|
    .region ?_
  refine .u rfl rfl rfl (q_mv rfl (rfl : _ = eErr _ _)) ?_
  refine .u rfl rfl rfl (q_neerr underlying58 rfl rfl) ?_
  refine .nil ?_
  refine AW.cond rfl (fun c0 => ?_) (fun c0 => ?_)
  · skip
    refine .seq <|
      .region ?_
    refine .u rfl rfl rfl (q_mv rfl (rfl : _ = eErr _ _)) ?_
    refine .aI rfl rfl ?_
    refine .u rfl rfl rfl (q_as rfl (rfl : _ = eErr _ _)) ?_
    refine .nil ?_
    refine AW.ret ?_
    exact retQ.mk' (.two _ _) (VLe.of_eq (by rw [show leftF s i = (0, (ofF s i).2) by rw [leftF, if_pos (by simpa using c0)]]; rfl)) (HLe.refl _) ⟨rfl, rfl⟩
  · have hz0 : (ofF s i).2 = 0 := by simpa using c0
    obtain ⟨hc0, hcr, ho⟩ := of_ok hz0
    obtain ⟨p1, p2, p3, p4⟩ := right_parts hc0
    have hi := creature_in hcr
    have hsl : (staticsF s).length ≤ 10000000 := by rw [← stUp_all]; exact stUp_len (hl 8)
    have hbd := evUp_bd (right_obd p2 hi) _ (Nat.le_refl _)
    rw [evUp_all] at hbd
    obtain ⟨⟨q1, q2, q3, q4⟩, q5, q6, q7, q8⟩ := hbd
    have hd : 0 ≤ s.objs.getD i.toNat noObj 6 ∧ s.objs.getD i.toNat noObj 6 ≤ 1073741824 := right_obj p2 (by omega) 6 (by decide)
    have ht : (ofF s i).1.t = (evSum s i (staticsF s)).out.t + (evSum s i (staticsF s)).more.t := by rw [ho]; rfl
    refine AW.skip ?_
    refine .seq ?_
    refine AW.draw [] [] [(0, true), (1, true), (2, true), (3, true), (4, true), (5, true), (6, true), (7, true), (8, true), (9, true), (10, true)] mixed (by kernel_rfl) rfl (by kernel_rfl) ?_
    refine .q rfl rfl rfl rfl (q_fa_i rfl underlying216 rfl (by exact sizeOf3) (by decide) rfl (rfl : _ = List.drop 1 _)) ?_
    refine .q rfl rfl rfl rfl (q_load_i1 rfl isAgg3 rfl rfl) ?_
    refine .q rfl rfl rfl rfl (q_fa_i rfl underlying29 rfl (by exact sizeOf22) (by decide) rfl (rfl : _ = List.drop 0 _)) ?_
    refine .q rfl rfl rfl rfl (q_load_i1 rfl isAgg22 rfl rfl) ?_
    refine .q rfl rfl rfl rfl (q_mv rfl (rfl : _ = V.int _ _)) ?_
    refine .q rfl rfl rfl rfl (q_ia_s rfl underlying22 sizeOf72 rfl rfl hi.1 hi.2 (cObjs_elem' hi.1 hi.2)) ?_
    refine .q rfl rfl rfl rfl (q_ia_ai rfl underlying72 sizeOf3 rfl rfl (by decide) (by decide) rfl) ?_
    refine .q rfl rfl rfl rfl (q_load_i1 rfl isAgg3 rfl rfl) ?_
    refine .q rfl rfl rfl rfl (q_sub' rfl rfl rfl (by omega)) ?_
    refine .q rfl rfl rfl rfl (q_as rfl (rfl : _ = V.int _ _)) ?_
    refine .q rfl rfl rfl rfl (q_as rfl (rfl : _ = V.inil)) ?_
    refine AOrd.nil ?_
    refine AW.ret ?_
    exact retQ.mk' (.two _ _) (VLe.of_eq (by rw [show leftF s i = ((ofF s i).1.t - s.objs.getD i.toNat noObj 6, 0) by rw [leftF, if_neg (by simpa using c0)]]; rw [show eE 0 = V.inil from eErr_zero _]; rfl)) (HLe.refl _) ⟨rfl, rfl⟩

theorem dying_calls (s : St) (hb : s.objs.length ≤ 1000000) (hl : ∀ z, (s.lists z).length ≤ 1000000) (h : Hp) : ACalls prog G 148 [eState s] h fun r h' => r = eInts (dyingF s) ∧ h' = h := by
  have hl8 := hl 8
  refine ACalls.enter func148 rfl ntmps148 results148 rfl ?_
  refine .seq <|
    .region <|
    .bx rfl rfl <|
    .aN rfl rfl <|
    .nil <|
    .seq <|
    .region <|
    .aN rfl rfl <|
    .nil <|
    .seq <|
    .seq <|
    .region <|
    .fi rfl f29_1 rfl ?_
  refine .u rfl rfl rfl (q_ia_ai rfl underlying24 sizeOf23 rfl rfl (by decide) (by decide) rfl) ?_
  refine .li rfl isAgg23 rfl rfl <|
    .ln rfl underlying23 rfl <|
    .mI rfl rfl <|
    .nil <|
    .block ?_
  refine AW.loop (fun n T hh => ∃ (i : Nat) (v : V), i ≤ (s.lists 8).length ∧ n = (s.lists 8).length - i ∧ T = put (put (put (put (put (T0) 12 (V.int .i64 (i : Nat))) 11 (V.int .i64 (s.lists 8).length)) 10 (eInts (s.lists 8))) 3 (v)) 1 (V.iptr (cState s)) ∧ Go.AV.Acc h 1 (dyingUp s i).length (cInts (dyingUp s i)) v hh) ((s.lists 8).length) ?_ ?_
  · skip
    refine Wk.mk (TLe.put (d := 1) (VLe.refl _) (TLe.put (d := 3) (VLe.refl _) (TLe.put (d := 10) (VLe.refl _) (TLe.put (d := 11) (VLe.refl _) (TLe.put (d := 12) (by exact VLe.of_eq (congrArg (V.int .i64) (by first | rfl | omega))) (TLe.zero _)))))) (HLe.refl _) ⟨0, V.snil, Nat.zero_le _, rfl, rfl, by exact Go.AV.Acc.nil h 1⟩
  · skip
    rintro n T h' ⟨i, v, hi, rfl, rfl, hem⟩
    refine .seq <|
      .region <|
      .ql rfl rfl rfl <|
      .nil <|
      .seq ?_
    refine AW.cond rfl (fun c0 => ?_) (fun c0 => ?_)
    · have hlt : i < (s.lists 8).length := by have := of_decide_eq_true c0; omega
      have hul := dying_le (s := s) (i := i)
      refine AW.skip ?_
      refine .seq <|
        .block <|
        .seq <|
        .region ?_
      refine .u rfl rfl rfl (q_ia_s rfl underlying23 sizeOf3 rfl rfl (by omega) (by omega) (cInts_at hlt)) ?_
      refine .li rfl isAgg3 rfl rfl <|
        .aI rfl rfl <|
        .nil <|
        .seq <|
        .region <|
        .lw rfl isAgg29 sizeOf29 rfl rfl <|
        .mI rfl rfl ?_
      refine .u rfl rfl rfl (QOp.call rfl call184 fun h' hl' => by exact left_calls _ _ (by assumption) (by assumption) h') ?_
      refine .u rfl rfl rfl (q_mv rfl (rfl : _ = V.tup _)) ?_
      refine .u rfl rfl rfl (q_extract rfl rfl rfl) ?_
      refine .u rfl rfl rfl (q_extract rfl rfl rfl) ?_
      refine .aI rfl rfl ?_
      refine .u rfl rfl rfl (q_as rfl (rfl : _ = eErr _ _)) ?_
      refine .nil <|
        .seq <|
        .region ?_
      refine .u rfl rfl rfl (q_mv rfl (rfl : _ = eErr _ _)) ?_
      refine .u rfl rfl rfl (q_eqerr underlying58 rfl rfl) ?_
      refine .mB rfl rfl ?_
      refine .gt rfl rfl rfl (fun _ => tl0) (fun hc => q_mv rfl (rfl : _ = V.int _ _)) ?_
      refine .gt rfl rfl rfl (fun hc => tl1 25 (.opt hc)) (fun hc => q_le rfl rfl rfl) ?_
      refine .pt rfl rfl rfl rfl <|
        .nil ?_
      refine AW.cond rfl (fun c1 => ?_) (fun c1 => ?_)
      · skip
        refine .region ?_
        refine .u rfl rfl rfl (q_mv rfl (rfl : _ = _)) ?_
        refine .mI rfl rfl ?_
        refine .u rfl rfl rfl (q_buildSl rfl underlying23 sizeOf3 zeroValue3 rfl rfl rfl rfl rfl) ?_
        refine AOps.s rfl rfl rfl (a_append rfl underlying23 (i := t3) (by kernel_rfl) rfl (n := 1) (by' := 8) rfl rfl rfl rfl hem rfl rfl (by decide) (by omega) (by omega) rfl (fun v2 h2 acc => ?_))
        refine .u rfl rfl rfl (q_as rfl (rfl : _ = _)) ?_
        refine .nil <|
          .region <|
          .ad rfl rfl rfl (by omega) <|
          .mI rfl rfl <|
          .nil ?_
        refine Wk.mk (TLe.put (d := 1) (VLe.refl _) (TLe.put (d := 3) (VLe.refl _) (TLe.put (d := 10) (VLe.refl _) (TLe.put (d := 11) (VLe.refl _) (TLe.put (d := 12) (by exact VLe.of_eq (congrArg (V.int .i64) (by first | rfl | omega))) (TLe.zero _)))))) (HLe.refl _) ⟨_, ?_, i + 1, _, ?_, rfl, rfl, by first | (rw [dying_yes hlt (by simpa [dies] using c1), cInts_app, List.length_append]; exact acc) | (rw [dying_no hlt (by simpa [dies] using c1)]; exact hem)⟩
        · omega
        · omega
      · skip
        refine AW.skip ?_
        refine .region <|
          .ad rfl rfl rfl (by omega) <|
          .mI rfl rfl <|
          .nil ?_
        refine Wk.mk (TLe.put (d := 1) (VLe.refl _) (TLe.put (d := 3) (VLe.refl _) (TLe.put (d := 10) (VLe.refl _) (TLe.put (d := 11) (VLe.refl _) (TLe.put (d := 12) (by exact VLe.of_eq (congrArg (V.int .i64) (by first | rfl | omega))) (TLe.zero _)))))) (HLe.refl _) ⟨_, ?_, i + 1, _, ?_, rfl, rfl, by first | (rw [dying_yes hlt (by simpa [dies] using c1), cInts_app, List.length_append]; exact acc) | (rw [dying_no hlt (by simpa [dies] using c1)]; exact hem)⟩
        · omega
        · omega
    · obtain rfl : i = (s.lists 8).length := by have := of_decide_eq_false c0; omega
      rw [dying_all] at hem
      refine AW.exit ?_
      refine .seq <|
        .region ?_
      refine .u rfl rfl rfl (q_mv rfl (rfl : _ = _)) ?_
      refine .u rfl rfl rfl (q_as rfl (rfl : _ = _)) ?_
      refine .nil ?_
      refine AW.ret ?_
      exact retQ.mk' (.one _) hem.vle hem.hle ⟨rfl, rfl⟩

theorem quiet_calls (s : St) (hb : s.objs.length ≤ 1000000) (hl : ∀ z, (s.lists z).length ≤ 1000000) (h : Hp) : ACalls prog G 97 [eState s] h fun r h' => r = .bool (quietF s) ∧ h' = h := by
  refine ACalls.enter func97 rfl ntmps97 results97 rfl ?_
  refine .seq <|
    .region <|
    .bx rfl rfl <|
    .aB rfl rfl <|
    .nil <|
    .seq <|
    .region <|
    .fi rfl f29_30 rfl ?_
  refine .u rfl rfl rfl (q_ia_ai rfl underlying27 sizeOf3 rfl rfl (by decide) (by decide) rfl) ?_
  refine .li rfl isAgg3 rfl rfl <|
    .qn rfl rfl rfl <|
    .mB rfl rfl ?_
  refine .gf rfl rfl rfl (fun _ => tl0) (fun hc => q_load_iW rfl isAgg29 sizeOf29 rfl (by rfl)) ?_
  refine .gf rfl rfl rfl (fun hc => tl1 8 (.opt hc)) (fun hc => QOp.call rfl (by exact call147) fun h' hl' => by exact result_calls _ h') ?_
  refine .gf rfl rfl rfl (fun hc => tl1 9 (.opt hc)) (fun hc => q_eq rfl rfl rfl) ?_
  refine .gf rfl rfl rfl (fun hc => tl1 10 (.opt hc)) (fun hc => q_mv rfl (rfl : _ = V.bool _)) ?_
  refine AOps.g (wanted_to rfl rfl) rfl rfl (fun _ => tl0) (fun hc => q_load_iW rfl isAgg29 sizeOf29 rfl (by rfl)) ?_
  refine AOps.g (wanted_to rfl rfl) rfl rfl (fun hc => tl1 12 (.opt hc)) (fun hc => QOp.call rfl (by exact call148) fun h' hl' => by exact dying_calls _ (by assumption) (by assumption) h') ?_
  refine AOps.g (wanted_to rfl rfl) rfl rfl (fun hc => tl1 13 (.opt hc)) (fun hc => q_len rfl underlying23 rfl) ?_
  refine AOps.g (wanted_to rfl rfl) rfl rfl (fun hc => tl1 14 (.opt hc)) (fun hc => q_eq rfl rfl rfl) ?_
  refine .gf rfl rfl rfl (fun hc => tl1 11 (.opt hc)) (fun hc => q_pickg rfl rfl (fun hp => by first | exact VLe.opt hp | exact VLe.opt (by rw [hp]; rfl) | exact VLe.opt (by simp_all)) (fun hp => by exact VLe.refl _)) ?_
  refine .pf rfl rfl rfl rfl <|
    .aB rfl rfl <|
    .nil ?_
  refine AW.ret ?_
  exact retQ.mk' (.one _) (VLe.of_eq (congrArg V.bool (by rw [quietF]; cases h1 : s.game 6 == 0 <;> cases h2 : resultF s == 0 <;> simp_all))) (HLe.refl _) ⟨rfl, rfl⟩

end Go.Proofs.YtagcjkbogaoifaaGreatDoor
/- Walks: what follows of itself: rounds. -/
namespace Go.Proofs.YtagcjkbogaoifaaGreatDoor
open Go Go.AV Go.Proofs.Tryz
set_option maxRecDepth 100000
set_option maxHeartbeats 1000000
/-- What holds of an emitter that only puts and sets. -/
structure EmP (m : Em) : Prop where
  inv : EmI m
  pend : m.pend.length ≤ 4 * m.evs.length
theorem gameF_same {m : Em} {f n : Int} : Same m (m.gameF f n) := by
  unfold Em.gameF; split
  · exact .rfl'
  · split
    · exact doL_same (by simp)
    · exact set_same (by simp)
theorem gameF_p {m : Em} {f n : Int} (h : EmP m) : EmP (m.gameF f n) := by
  have := gameF_same (m := m) (f := f) (n := n)
  exact ⟨gameF_inv h.inv, by rw [this.pend]; have := this.evs; have := h.pend; omega⟩
theorem putF_p {m : Em} {i b : Int} (h : EmP m) : EmP (m.putF i b) := ⟨putF_inv h.inv, putF_evs.2.2.1 h.pend⟩
/-- Some are put to the grave. -/
def Em.putL (m : Em) (l : List Int) : Em := l.foldl (fun m i => m.putF i 4) m
theorem putL_p {m : Em} {l : List Int} (h : EmP m) : EmP (m.putL l) := by
  induction l generalizing m with
  | nil => exact h
  | cons i l ih => exact ih (m := m.putF i 4) (putF_p h)
theorem putL_evs {m : Em} {l : List Int} : m.evs.length ≤ (m.putL l).evs.length ∧ ((m.putL l).err = 0 → m.err = 0 ∧ m.evs.length + l.length ≤ (m.putL l).evs.length) := by
  induction l generalizing m with
  | nil => exact ⟨Nat.le_refl _, fun e => ⟨e, Nat.le_refl _⟩⟩
  | cons i l ih =>
    have h1 := ih (m := m.putF i 4)
    obtain ⟨a, b, _⟩ := putF_evs (m := m) (i := i) (base := 4)
    refine ⟨Nat.le_trans a h1.1, fun e => ?_⟩
    obtain ⟨c, d⟩ := h1.2 e
    obtain ⟨c', d'⟩ := b c
    refine ⟨c', ?_⟩
    show m.evs.length + (l.length + 1) ≤ ((m.putF i 4).putL l).evs.length
    omega
theorem putL_next {m : Em} {l : List Int} {k : Nat} (h : k < l.length) : m.putL (l.take (k + 1)) = (m.putL (l.take k)).putF (l.getD k 0) 4 := by
  rw [Em.putL, Em.putL, List.take_add_one, List.getElem?_eq_getElem h, getD_of h, List.foldl_append]; rfl
/-- One round. -/
def roundF (m : Em) : Em := if resultF m.state ≠ 0 then m.gameF 6 (resultF m.state) else m.putL (dyingF m.state)
theorem round_p {m : Em} (h : EmP m) : EmP (roundF m) := by
  unfold roundF; split
  · exact gameF_p h
  · exact putL_p h
theorem EmI.st {m : Em} (h : EmI m) : m.err = 0 → m.now.objs.length ≤ 1000000 ∧ ∀ z, (m.now.lists z).length ≤ 1000000 := fun e =>
  ⟨by have := (h.sz e).objs; omega, fun z => by have := (h.sz e).lists z; omega⟩
theorem EmI.st2 {m : Em} (h : EmI m) : m.state.objs.length ≤ 1000000 ∧ ∀ z, (m.state.lists z).length ≤ 1000000 := by
  unfold Em.state; split
  · rename_i e; exact h.st e
  · exact ⟨by simp [noSt], fun z => by simp [noSt]⟩
theorem EmI.box {h0 : Hp} {id : Nat} {m : Em} {h : Hp} (e : EmAt h0 id m h) : ∃ ve vp, h.box id = some (emCells m ve vp) := by
  obtain ⟨ve, vp, _, rfl⟩ := e; exact ⟨ve, vp, Hp.box_setBox _ _ _⟩
theorem gameF_more {m : Em} {n : Int} (h : m.err = 0) (hne : m.now.game 6 ≠ n) (e : (m.gameF 6 n).err = 0) : m.evs.length + 1 ≤ (m.gameF 6 n).evs.length := by
  unfold Em.gameF at *
  rw [if_neg (by simpa using h)] at e ⊢
  split at e
  · rename_i g; rw [if_pos g]; have := doL_more e; omega
  · rename_i g; rw [if_neg g]
    unfold Em.set at *
    rw [if_neg (show ¬ m.now.game (Int.toNat 6) = n from hne)] at e ⊢
    have := doL_more e; omega
theorem round_more {m : Em} (h : m.err = 0) (hq : quietF m.state = false) (e : (roundF m).err = 0) : m.evs.length + 1 ≤ (roundF m).evs.length := by
  have hs : m.state = m.now := by unfold Em.state; rw [if_pos h]
  simp only [quietF, Bool.or_eq_false_iff, bne_eq_false_iff_eq, Bool.and_eq_false_iff, beq_eq_false_iff_ne] at hq
  unfold roundF at *
  split at e
  · rename_i g; rw [if_pos g]
    refine gameF_more h ?_ e
    rw [hs] at hq; rw [hq.1]; exact Ne.symm g
  · rename_i g; rw [if_neg g]
    have := (putL_evs.2 e).2
    have hd : (dyingF m.state).length ≠ 0 := by
      rcases hq.2 with a | a
      · exact absurd a g
      · omega
    omega
/-- The rounds, from one emitter and a count to another emitter and count. -/
inductive Runs (fuel : Int) : Em → Int → Em → Int → Prop
  | quiet {m n} : (m.err = 0 → quietF m.state = true) → Runs fuel m n m n
  | out {m n} : m.err = 0 → quietF m.state = false → fuel ≤ n → Runs fuel m n (m.gameF 6 3) n
  | more {m n m' n'} : m.err = 0 → quietF m.state = false → n < fuel → Runs fuel (roundF m) (n + 1) m' n' → Runs fuel m n m' n'
theorem run_yes1 {e : Int} {q : Bool} (c : (bif e == 0 then !q else false) = true) : e = 0 := by
  cases h : e == 0
  · rw [h] at c; cases c
  · simpa using h
theorem run_yes2 {e : Int} {q : Bool} (c : (bif e == 0 then !q else false) = true) : q = false := by
  cases h : e == 0
  · rw [h] at c; cases c
  · rw [h] at c; simpa using c
theorem run_no {e : Int} {q : Bool} (c : (bif e == 0 then !q else false) = false) (h : e = 0) : q = true := by
  subst h; simpa using c
def runN (m : Em) (n : Int) : Int := if m.err = 0 then n else 0

theorem round_calls {h0 : Hp} {id : Nat} {m : Em} {h : Hp} (he : EmAt h0 id m h) (hP : EmP m) : ACalls prog G 98 [.ptr id 0] h fun r h' => r = .tup [] ∧ EmAt h0 id (roundF m) h' := by
  have hI := hP.inv
  have hst := hI.st2
  obtain ⟨ve, vp, hbx⟩ := EmI.box he
  refine ACalls.enter func98 rfl ntmps98 results98 rfl ?_
  refine .seq <|
    .region <|
    .mP rfl rfl ?_
  refine .u rfl rfl rfl (QOp.call rfl call16 fun h' hl' => by exact state_calls (hl'.box _ _ hbx) hI.st) ?_
  refine AOps.s rfl rfl rfl (a_alloc rfl zeroValue29 rfl (fun id2 hid2 => ?_))
  refine .sw sizeOf29 rfl rfl rfl rfl ?_
  refine AOps.done 2 rfl hid2 ?_
  refine .nil <|
    .seq <|
    .seq <|
    .region <|
    .lw rfl isAgg29 sizeOf29 rfl rfl ?_
  refine .u rfl rfl rfl (QOp.call rfl call147 fun h' hl' => by exact result_calls _ h') ?_
  refine .aI rfl rfl <|
    .nil <|
    .seq <|
    .region <|
    .mI rfl rfl <|
    .qn rfl rfl rfl <|
    .nil ?_
  refine AW.cond rfl (fun c0 => ?_) (fun c0 => ?_)
  · skip
    refine .seq <|
      .region <|
      .mP rfl rfl <|
      .mI rfl rfl ?_
    refine AOps.s rfl rfl rfl ((AStep.call rfl (by exact call41) (game'_calls 6 (resultF m.state) he hI)).mono ?_)
    rintro x9 h9 ⟨rfl, he9⟩
    refine .nil ?_
    refine AW.ret ?_
    exact retQ.mk .none ⟨rfl, by rw [roundF, if_pos (by simpa using c0)]; exact he9⟩
  · skip
    refine AW.skip ?_
    refine .seq <|
      .region <|
      .lw rfl isAgg29 sizeOf29 rfl rfl ?_
    refine .u rfl rfl rfl (QOp.call rfl call148 fun h' hl' => by exact dying_calls _ hst.1 hst.2 h') ?_
    refine .ln rfl underlying23 rfl <|
      .mI rfl rfl <|
      .nil <|
      .block ?_
    refine AW.loop (fun n T hh => ∃ (k : Nat) , k ≤ (dyingF m.state).length ∧ n = (dyingF m.state).length - k ∧ T = put (put (put (put (T0) 18 (V.int .i64 (k : Nat))) 17 (V.int .i64 (dyingF m.state).length)) 16 (eInts (dyingF m.state))) 0 (V.ptr id 0) ∧ EmAt h0 id (m.putL ((dyingF m.state).take k)) hh) ((dyingF m.state).length) ?_ ?_
    · skip
      refine Wk.mk (TLe.put (d := 0) (VLe.refl _) (TLe.put (d := 16) (VLe.refl _) (TLe.put (d := 17) (VLe.refl _) (TLe.put (d := 18) (by exact VLe.of_eq (congrArg (V.int .i64) (by first | rfl | omega))) (TLe.zero _))))) (HLe.refl _) ⟨0, Nat.zero_le _, rfl, rfl, by rw [List.take_zero]; exact he⟩
    · skip
      rintro n T h' ⟨k, hk, rfl, rfl, hem⟩
      refine .seq <|
        .region <|
        .ql rfl rfl rfl <|
        .nil <|
        .seq ?_
      refine AW.cond rfl (fun c1 => ?_) (fun c1 => ?_)
      · have hltk : k < (dyingF m.state).length := by have := of_decide_eq_true c1; omega
        have hdl : (dyingF m.state).length ≤ 1000000 := Nat.le_trans (by rw [← dying_all]; exact dying_le) (hst.2 8)
        have hPk : EmP (m.putL ((dyingF m.state).take k)) := putL_p hP
        have hpk : (m.putL ((dyingF m.state).take k)).pend.length ≤ 1000000 := by have := hPk.pend; have := hPk.inv.evs; omega
        refine AW.skip ?_
        refine .seq <|
          .block <|
          .seq <|
          .region ?_
        refine .u rfl rfl rfl (q_ia_s rfl underlying23 sizeOf3 rfl rfl (by omega) (by omega) (cInts_at hltk)) ?_
        refine .li rfl isAgg3 rfl rfl <|
          .aI rfl rfl <|
          .nil <|
          .region <|
          .mP rfl rfl <|
          .mI rfl rfl ?_
        refine AOps.s rfl rfl rfl ((AStep.call rfl (by exact call25) (putF_calls ((dyingF m.state).getD k 0) 4 hem hPk.inv hpk)).mono ?_)
        rintro x9 h9 ⟨rfl, he9⟩
        refine .nil <|
          .region <|
          .ad rfl rfl rfl (by omega) <|
          .mI rfl rfl <|
          .nil ?_
        refine Wk.mk (TLe.put (d := 0) (VLe.refl _) (TLe.put (d := 16) (VLe.refl _) (TLe.put (d := 17) (VLe.refl _) (TLe.put (d := 18) (by exact VLe.of_eq (congrArg (V.int .i64) (by first | rfl | omega))) (TLe.zero _))))) (HLe.refl _) ⟨_, ?_, k + 1, ?_, rfl, rfl, by rw [putL_next hltk]; exact he9⟩
        · omega
        · omega
      · obtain rfl : k = (dyingF m.state).length := by have := of_decide_eq_false c1; omega
        refine AW.exit ?_
        rw [List.take_length] at hem
        exact retQ.mk .none ⟨rfl, by rw [roundF, if_neg (by simpa using c0)]; exact hem⟩

theorem run_calls (fuel : Int) {h0 : Hp} {id : Nat} {m : Em} {h : Hp} (he : EmAt h0 id m h) (hP : EmP m) : ACalls prog G 51 [.ptr id 0, .int .i64 fuel] h fun r h' => ∃ m2 n2, Runs fuel m 0 m2 n2 ∧ EmP m2 ∧ r = .int .i64 (runN m2 n2) ∧ EmAt h0 id m2 h' := by
  refine ACalls.enter func51 rfl ntmps51 results51 rfl ?_
  refine .seq <|
    .region <|
    .aI rfl rfl <|
    .nil <|
    .seq <|
    .region <|
    .aI rfl rfl <|
    .nil <|
    .seq <|
    .block ?_
  refine AW.loop (fun n T hh => ∃ (k : Int) (m1 : Em), T = put (put (put (put T0 0 (V.ptr id 0)) 1 (V.int .i64 fuel)) 4 (V.int .i64 0)) 5 (V.int .i64 k) ∧ EmAt h0 id m1 hh ∧ EmP m1 ∧ 0 ≤ k ∧ (m1.err = 0 → k ≤ m1.evs.length) ∧ k ≤ 65537 ∧ n = (if m1.err = 0 then 65537 - m1.evs.length else 0) ∧ ∀ m2 n2, Runs fuel m1 k m2 n2 → Runs fuel m 0 m2 n2) ((if m.err = 0 then 65537 - m.evs.length else 0)) ?_ ?_
  · skip
    refine Wk.mk (TLe.put (d := 5) (VLe.refl _) (TLe.put (d := 4) (VLe.refl _) (TLe.put (d := 1) (VLe.refl _) (TLe.put (d := 0) (VLe.refl _) (TLe.zero _))))) (HLe.refl _) ⟨0, m, rfl, he, hP, by omega, fun _ => by omega, by omega, rfl, fun _ _ h => h⟩
  · skip
    rintro n T h' ⟨k, m1, rfl, he1, hP1, hk0, hk1, hk2, rfl, hR⟩
    obtain ⟨ve1, vp1, hb1⟩ := EmI.box he1
    refine .seq <|
      .seq <|
      .region <|
      .mP rfl rfl ?_
    refine .u rfl rfl rfl (QOp.call rfl call18 fun h' hl' => by exact err_calls (hl'.box _ _ hb1)) ?_
    refine .u rfl rfl rfl (q_eqerr underlying58 rfl rfl) ?_
    refine .mB rfl rfl ?_
    refine .gt rfl rfl rfl (fun _ => tl0) (fun hc => q_mv rfl (rfl : _ = V.ptr _ _)) ?_
    refine .gt rfl rfl rfl (fun hc => tl1 10 (.opt hc)) (fun hc => QOp.call rfl (by exact call16) fun h' hl' => by exact state_calls (hl'.box _ _ hb1) hP1.inv.st) ?_
    refine .gt rfl rfl rfl (fun hc => tl1 11 (.opt hc)) (fun hc => QOp.call rfl (by exact call97) fun h' hl' => by exact quiet_calls _ hP1.inv.st2.1 hP1.inv.st2.2 h') ?_
    refine .gt rfl rfl rfl (fun hc => tl1 12 (.opt hc)) (fun hc => q_not rfl rfl) ?_
    refine .pt rfl rfl rfl rfl <|
      .nil ?_
    refine AW.cond rfl (fun c0 => ?_) (fun c0 => ?_)
    · have hz : m1.err = 0 := run_yes1 c0
      have hq : quietF m1.state = false := run_yes2 c0
      have hev := hP1.inv.evs
      have hk3 := hk1 hz
      refine AW.skip ?_
      refine .block <|
        .seq <|
        .seq <|
        .region <|
        .mI rfl rfl <|
        .mI rfl rfl <|
        .qg rfl rfl rfl <|
        .nil ?_
      refine AW.cond rfl (fun c1 => ?_) (fun c1 => ?_)
      · skip
        refine .seq <|
          .region <|
          .mP rfl rfl ?_
        refine AOps.s rfl rfl rfl ((AStep.call rfl (by exact call41) (game'_calls 6 3 he1 hP1.inv)).mono ?_)
        rintro x9 h9 ⟨rfl, he9⟩
        obtain ⟨m2, hfin, hP2, he2⟩ : ∃ m2, Runs fuel m 0 m2 k ∧ EmP m2 ∧ EmAt h0 id m2 h9 := ⟨_, hR _ _ (.out hz hq (of_decide_eq_true c1)), gameF_p hP1, he9⟩
        obtain ⟨ve7, vp7, hb7⟩ := EmI.box he2
        refine .nil ?_
        refine AW.exit ?_
        refine .seq <|
          .seq <|
          .region <|
          .mP rfl rfl ?_
        refine .u rfl rfl rfl (QOp.call rfl call18 fun h' hl' => by exact err_calls (hl'.box _ _ hb7)) ?_
        refine .u rfl rfl rfl (q_neerr underlying58 rfl rfl) ?_
        refine .nil ?_
        refine AW.cond rfl (fun c2 => ?_) (fun c2 => ?_)
        · skip
          refine .seq <|
            .region <|
            .aI rfl rfl <|
            .nil ?_
          refine AW.ret ?_
          exact retQ.mk (.one _) ⟨m2, k, hfin, hP2, by rw [runN, if_neg (by simpa using c2)]; rfl, he2⟩
        · skip
          refine AW.skip ?_
          refine .seq <|
            .region <|
            .mI rfl rfl <|
            .aI rfl rfl <|
            .nil ?_
          refine AW.ret ?_
          exact retQ.mk (.one _) ⟨m2, k, hfin, hP2, by rw [runN, if_pos (by simpa using c2)]; rfl, he2⟩
      · skip
        refine AW.skip ?_
        refine .seq <|
          .region <|
          .mP rfl rfl ?_
        refine AOps.s rfl rfl rfl ((AStep.call rfl (by exact call98) (round_calls he1 hP1)).mono ?_)
        rintro x9 h9 ⟨rfl, he9⟩
        refine .nil <|
          .region <|
          .mI rfl rfl <|
          .ad rfl rfl rfl (by omega) <|
          .aI rfl rfl <|
          .nil ?_
        have hmo := round_more hz hq
        have hev2 := (round_p hP1).inv.evs
        refine Wk.mk (TLe.put (d := 5) (VLe.refl _) (TLe.put (d := 4) (VLe.refl _) (TLe.put (d := 1) (VLe.refl _) (TLe.put (d := 0) (VLe.refl _) (TLe.zero _))))) (HLe.refl _) ⟨_, ?_, k + 1, roundF m1, rfl, he9, round_p hP1, by omega, fun e => by have := hmo e; omega, by omega, rfl, fun m2 n2 hr => hR _ _ (.more hz hq (by have := of_decide_eq_false c1; omega) hr)⟩
        rw [if_pos hz]
        split
        · rename_i e; have := hmo e; omega
        · omega
    · obtain ⟨m2, hfin, hP2, he2⟩ : ∃ m2, Runs fuel m 0 m2 k ∧ EmP m2 ∧ EmAt h0 id m2 h' := ⟨_, hR _ _ (.quiet (run_no c0)), hP1, he1⟩
      obtain ⟨ve7, vp7, hb7⟩ := EmI.box he2
      refine AW.exit ?_
      refine .seq <|
        .seq <|
        .region <|
        .mP rfl rfl ?_
      refine .u rfl rfl rfl (QOp.call rfl call18 fun h' hl' => by exact err_calls (hl'.box _ _ hb7)) ?_
      refine .u rfl rfl rfl (q_neerr underlying58 rfl rfl) ?_
      refine .nil ?_
      refine AW.cond rfl (fun c3 => ?_) (fun c3 => ?_)
      · skip
        refine .seq <|
          .region <|
          .aI rfl rfl <|
          .nil ?_
        refine AW.ret ?_
        exact retQ.mk (.one _) ⟨m2, k, hfin, hP2, by rw [runN, if_neg (by simpa using c3)]; rfl, he2⟩
      · skip
        refine AW.skip ?_
        refine .seq <|
          .region <|
          .mI rfl rfl <|
          .aI rfl rfl <|
          .nil ?_
        refine AW.ret ?_
        exact retQ.mk (.one _) ⟨m2, k, hfin, hP2, by rw [runN, if_pos (by simpa using c3)]; rfl, he2⟩

end Go.Proofs.YtagcjkbogaoifaaGreatDoor
/- Walks: the document's answer to whether a state is right. -/
namespace Go.Proofs.YtagcjkbogaoifaaGreatDoor
open Go Go.AV Go.Proofs.Tryz
set_option maxRecDepth 100000
set_option maxHeartbeats 1000000
/-- Nothing stands in a list that isn't. -/
def Few (s : St) : Prop := ∀ z, 11 ≤ z → s.lists z = []
end Go.Proofs.YtagcjkbogaoifaaGreatDoor
/- Walks: two states, side by side. -/
namespace Go.Proofs.YtagcjkbogaoifaaGreatDoor
open Go Go.AV Go.Proofs.Tryz
set_option maxRecDepth 100000
set_option maxHeartbeats 1000000
end Go.Proofs.YtagcjkbogaoifaaGreatDoor
/- Walks: the law's fixed fact; rounds again. -/
namespace Go.Proofs.YtagcjkbogaoifaaGreatDoor
open Go Go.AV Go.Proofs.Tryz
set_option maxRecDepth 100000
set_option maxHeartbeats 1000000
def aliveO : Obj := fun f => match f with | 0 => 10 | 3 => 8 | 6 => 1 | _ => 0
def aliveSt : St := ⟨[aliveO], fun z => if z = 8 then [0] else [], fun _ f => if f = 0 then 1 else 0, fun _ => 0⟩
theorem sz_of {s : St} (h : checkF s = 0) (hf : Few s) : Sz s := by
  obtain ⟨a, b, c, d⟩ := right_parts h
  refine ⟨a, ?_, hf, fun i => ?_⟩
  · simp only [zonesF, Bool.and_eq_true, decide_eq_true_eq] at c; omega
  · by_cases hi : i < s.objs.length
    · exact right_obj b hi 3 (by decide)
    · rw [List.getD_eq_getElem?_getD, List.getElem?_eq_none (by omega)]; exact ⟨by decide, by decide⟩
theorem new_eq (s : St) : newF s [] = ⟨s, [], [], [], checkF s⟩ := by
  have e : randF [] = 0 := rfl
  unfold newF Em.fail
  rw [e]; split
  · rename_i h
    have h : checkF s = 0 := h
    rw [h]
  · rfl
theorem new_p {s : St} (hf : Few s) : EmP (newF s []) := by
  rw [new_eq]
  exact ⟨⟨fun e => sz_of e hf, by simp⟩, by simp⟩
/-- A new emitter, without draws. -/
theorem new_nil (s : St) (hb : s.objs.length ≤ 1000000) (hl : ∀ z, (s.lists z).length ≤ 1000000) (h : Hp) : ACalls prog G 13 [eState s, .snil] h fun r h' => ∃ id, r = .ptr id 0 ∧ EmAt h id (newF s []) h' :=
  .args (bs := [eState s, eInts []]) rfl (fun j => match j with | 0 => .refl _ | 1 => .nilimm | _ + 2 => .refl _) (new_calls s [] hb hl (by simp) h)
def alive0 : Em := newF aliveSt []
theorem long_no {s : St} (hf : Few s) (h : longF s 40 = false) : s.objs.length ≤ 40 ∧ ∀ z, (s.lists z).length ≤ 50 := by
  simp only [longF, Bool.or_eq_false_iff, decide_eq_false_iff_not, List.any_eq_false, List.mem_range] at h
  refine ⟨by omega, fun z => ?_⟩
  by_cases hz : z < 11
  · have := h.2 z hz; simp at this; omega
  · rw [hf z (by omega)]; simp
theorem long_hb {s : St} (hf : Few s) (h : longF s 40 = false) : s.objs.length ≤ 1000000 ∧ ∀ z, (s.lists z).length ≤ 1000000 := by
  obtain ⟨a, b⟩ := long_no hf h
  exact ⟨by omega, fun z => by have := b z; omega⟩
end Go.Proofs.YtagcjkbogaoifaaGreatDoor
/- What a row's own list of variables gives the walk; a witness for rows over a state. -/
namespace Go.Proofs.YtagcjkbogaoifaaGreatDoor
open Go Go.AV Go.Proofs.Tryz Go.ChangeShapes Go.WideShapes Go.ChangeAt Go.RowKit
set_option maxRecDepth 100000
theorem own : ownKnob prog.godebug = none := by kernel_rfl
theorem laidOut : laidOutB prog = true := by kernel_rfl
/-- The variables that every row of this seat lists. -/
def laidL : List (String × DataW Unit) := [("mulligan/state.any", Rows.laid_mulligan_state_any), ("mulligan/state.flag", Rows.laid_mulligan_state_flag), ("mulligan/state.resting", Rows.laid_mulligan_state_resting), ("mulligan/emit.resting", Rows.laid_mulligan_emit_resting)]
theorem tab_pair {P : Program} {W : World} {name : String} {a b : Int} {rest : List (String × DataW Unit)} {g : Nat} {t e : TypeId} {f0 f1 : Field}
    (hg : P.globalNamed name = some g) (hty : (P.globals[g]?).map (·.type) = some t) (ht : P.underlying t = some (.struct #[f0, f1])) (h0 : f0.offset = 0 ∧ f0.type = e) (h1 : f1.offset = 1 ∧ f1.type = e) (he : P.underlying e = some (.int .i64)) (hce : P.cellsOf e = 1) (hct : P.cellsOf t = 2)
    (h : laidMet P ((name, .agg [.lit (.int .i64 a), .lit (.int .i64 b)]) :: rest) W) : Lib.TabIs P W name .i64 [a, b] := by
  obtain ⟨ps, ⟨g', t', cs, fuel, p, q, hg', ht', hvar, hd, _, _⟩, _⟩ := h
  obtain rfl := Option.some.inj (hg.symm.trans hg')
  obtain rfl := Option.some.inj (hty.symm.trans ht')
  unfold Lib.TabIs
  obtain ⟨xs, k, _, hx, hl, hxl, hread⟩ := DataW.trod_struct ht hd
  have r0 := hread 0 f0 rfl
  have r1 := hread 1 f1 rfl
  have hm : xs.map (·.1) = [.lit (.int .i64 a), .lit (.int .i64 b)] := by
    have := congrArg Prod.fst hx
    exact (DataW.agg.inj this).symm
  match xs, hm with
  | [x0, x1], hm =>
    simp only [List.map_cons, List.map_nil, List.cons.injEq, and_true] at hm
    rw [h0.1, h0.2, hce] at r0
    rw [h1.1, h1.2, hce] at r1
    obtain ⟨n0, c0, e0, _⟩ := DataW.trod_int he r0
    obtain ⟨n1, c1, e1, _⟩ := DataW.trod_int he r1
    subst e0 e1
    obtain ⟨hm0, hm1⟩ := hm
    obtain rfl : n0 = a := by injection hm0 with hm0; injection hm0
    obtain rfl : n1 = b := by injection hm1 with hm1; injection hm1
    rw [hct] at hl
    rw [hvar]
    obtain ⟨cl⟩ := cs
    match cl, hl, c0, c1 with
    | [u, v], _, c0, c1 =>
      obtain rfl : u = .int .i64 n0 := by simpa using c0
      obtain rfl : v = .int .i64 n1 := by simpa using c1
      rfl
theorem vars_ok {W : World} (h : laidMetH prog laidL W) : ∀ g cs, G g = some cs → Rep (E0 W) (.pointer (some ⟨g, 0, none⟩)) (.iptr cs) := by
  have m1 : laidMetH prog [("mulligan/state.any", Rows.laid_mulligan_state_any)] W := by
    have := laidMetH.filter (fun x => x.1 == "mulligan/state.any") h
    rwa [show laidL.filter (fun x => x.1 == "mulligan/state.any") = [("mulligan/state.any", Rows.laid_mulligan_state_any)] by simp [laidL]] at this
  have t1 : Lib.TabIs prog W "mulligan/state.any" .i64 [-1073741824, 1073741824] := tab_pair (rest := []) (g := 3) (t := 161) (by kernel_rfl) (by kernel_rfl) underlying161 ⟨rfl, rfl⟩ ⟨rfl, rfl⟩ underlying3 (by kernel_rfl) (by kernel_rfl) m1
  have m2 : laidMetH prog [("mulligan/state.flag", Rows.laid_mulligan_state_flag)] W := by
    have := laidMetH.filter (fun x => x.1 == "mulligan/state.flag") h
    rwa [show laidL.filter (fun x => x.1 == "mulligan/state.flag") = [("mulligan/state.flag", Rows.laid_mulligan_state_flag)] by simp [laidL]] at this
  have t2 : Lib.TabIs prog W "mulligan/state.flag" .i64 [0, 1] := tab_pair (rest := []) (g := 2) (t := 161) (by kernel_rfl) (by kernel_rfl) underlying161 ⟨rfl, rfl⟩ ⟨rfl, rfl⟩ underlying3 (by kernel_rfl) (by kernel_rfl) m2
  have m3 : laidMetH prog [("mulligan/state.resting", Rows.laid_mulligan_state_resting)] W := by
    have := laidMetH.filter (fun x => x.1 == "mulligan/state.resting") h
    rwa [show laidL.filter (fun x => x.1 == "mulligan/state.resting") = [("mulligan/state.resting", Rows.laid_mulligan_state_resting)] by simp [laidL]] at this
  have t3 : Lib.TabIs prog W "mulligan/state.resting" .i64 [4, 5, 6, 7, 8, 9, 10, 11, 12] := Lib.tabIs_of_head (rest := []) (g := 1) (t := 25) (by kernel_rfl) (by kernel_rfl) underlying25 underlying3 (by kernel_rfl) (by kernel_rfl) m3
  have m4 : laidMetH prog [("mulligan/emit.resting", Rows.laid_mulligan_emit_resting)] W := by
    have := laidMetH.filter (fun x => x.1 == "mulligan/emit.resting") h
    rwa [show laidL.filter (fun x => x.1 == "mulligan/emit.resting") = [("mulligan/emit.resting", Rows.laid_mulligan_emit_resting)] by simp [laidL]] at this
  have t4 : Lib.TabIs prog W "mulligan/emit.resting" .i64 [4, 5, 6, 7, 8, 9, 10, 11, 12] := Lib.tabIs_of_head (rest := []) (g := 0) (t := 25) (by kernel_rfl) (by kernel_rfl) underlying25 underlying3 (by kernel_rfl) (by kernel_rfl) m4
  have go : ∀ (g : Nat) (zs : List Int), (∀ i, i < zs.length → W.cell? ⟨g, i, none⟩ = some (.int .i64 (zs.getD i 0))) → Rep (E0 W) (.pointer (some ⟨g, 0, none⟩)) (.iptr (zs.map (V.int .i64))) := fun g zs hz =>
    rep_var fun j hj => by have := hz j hj; rwa [List.getD_eq_getElem?_getD, List.getElem?_eq_getElem hj] at this
  intro g cs hg
  unfold G at hg
  cases e1 : Nat.beq g 3 with
  | true => rw [e1] at hg; obtain rfl := Option.some.inj hg; obtain rfl := Nat.eq_of_beq_eq_true e1; exact go _ [-1073741824, 1073741824] fun i hi => t1.cell (by kernel_rfl) i hi
  | false =>
    cases e2 : Nat.beq g 2 with
    | true => rw [e1, e2] at hg; obtain rfl := Option.some.inj hg; obtain rfl := Nat.eq_of_beq_eq_true e2; exact go _ [0, 1] fun i hi => t2.cell (by kernel_rfl) i hi
    | false =>
      cases e3 : Nat.beq g 1 with
      | true => rw [e1, e2, e3] at hg; obtain rfl := Option.some.inj hg; obtain rfl := Nat.eq_of_beq_eq_true e3; exact go _ [4, 5, 6, 7, 8, 9, 10, 11, 12] fun i hi => t3.cell (by kernel_rfl) i hi
      | false =>
        cases e4 : Nat.beq g 0 with
        | true => rw [e1, e2, e3, e4] at hg; obtain rfl := Option.some.inj hg; obtain rfl := Nat.eq_of_beq_eq_true e4; exact go _ [4, 5, 6, 7, 8, 9, 10, 11, 12] fun i hi => t4.cell (by kernel_rfl) i hi
        | false => rw [e1, e2, e3, e4] at hg; cases hg

def nil0 : Value := .slice none 0 0
def state0 : Value := .agg (((List.replicate 12 nil0) ++ List.replicate 25 (Value.int .i64 0)).toArray)
def state0D {H : Type} : DataW H := .agg [.nil, .agg (List.replicate 11 .nil), .agg (List.replicate 2 (.agg (List.replicate 9 (.lit (.int .i64 0))))), .agg (List.replicate 7 (.lit (.int .i64 0)))]
def putCells (h : Array Go.Obj) (g : Nat) (l : List Int) : Array Go.Obj := h.modify g fun
  | Go.Obj.cells _ t frozen => Go.Obj.cells (l.map (Value.int .i64)).toArray t frozen
  | o => o
noncomputable def laidWorld (os : Os) : World :=
  { World.holding prog os ⟨#[], #[], []⟩ with heap := putCells (putCells (putCells (putCells (World.holding prog os ⟨#[], #[], []⟩).heap 3 [-1073741824, 1073741824]) 2 [0, 1]) 1 [4, 5, 6, 7, 8, 9, 10, 11, 12]) 0 [4, 5, 6, 7, 8, 9, 10, 11, 12] }
end Go.Proofs.YtagcjkbogaoifaaGreatDoor
/- Walks: an object is made by an emitter; which ability an object is. -/
namespace Go.Proofs.YtagcjkbogaoifaaGreatDoor
open Go Go.AV Go.Proofs.Tryz
set_option maxRecDepth 100000
set_option maxHeartbeats 1000000
def mkEv (c o k : Int) : Ev := ⟨0, c, o, k, 0, 0⟩
def Em.makeF (m : Em) (c o k : Int) : Em := m.doL [mkEv c o k]
def Em.made (m : Em) (c o k : Int) : Int := if m.err ≠ 0 then 0 else if (m.makeF c o k).err ≠ 0 then 0 else m.now.objs.length

theorem make_calls (c o k : Int) {h0 : Hp} {id : Nat} {m : Em} {h : Hp} (he : EmAt h0 id m h) (hI : EmI m) : ACalls prog G 42 [.ptr id 0, .int .i64 c, .int .i64 o, .int .i64 k] h fun r h' => r = .int .i64 (m.made c o k) ∧ EmAt h0 id (m.makeF c o k) h' := by
  obtain ⟨ve, vp, hr, rfl⟩ := he
  refine ACalls.enter func42 rfl ntmps42 results42 rfl ?_
  refine .seq <|
    .region <|
    .aI rfl rfl <|
    .nil <|
    .seq <|
    .seq <|
    .region <|
    .mP rfl rfl ?_
  refine .u rfl rfl rfl (QOp.call rfl call18 fun h' hl' => by exact err_calls (hl'.box _ _ (Hp.box_setBox _ _ _))) ?_
  refine .u rfl rfl rfl (q_neerr underlying58 rfl rfl) ?_
  refine .nil ?_
  refine AW.cond rfl (fun c0 => ?_) (fun c0 => ?_)
  · have hz : m.err ≠ 0 := by simpa using c0
    refine .seq <|
      .region <|
      .aI rfl rfl <|
      .nil ?_
    refine AW.ret ?_
    exact retQ.mk (.one _) ⟨(rfl : _ = V.int .i64 0).trans (congrArg (V.int .i64) (by rw [Em.made, if_pos hz])), by rw [Em.makeF, doL_stop hz]; exact ⟨ve, vp, hr, rfl⟩⟩
  · have hz : m.err = 0 := by simpa using c0
    refine AW.skip ?_
    refine .seq <|
      .region <|
      .mP rfl rfl <|
      .nP rfl rfl <|
      .fb rfl f86_0 rfl rfl <|
      .fb rfl f29_0 rfl rfl <|
      .lb rfl isAgg22 rfl rfl <|
      .ln rfl underlying22 rfl <|
      .aI rfl rfl <|
      .nil <|
      .seq <|
      .region <|
      .mP rfl rfl <|
      .mI rfl rfl <|
      .mI rfl rfl <|
      .mI rfl rfl ?_
    refine .u rfl rfl rfl (q_buildS (ds := cEv (mkEv c o k)) rfl zeroValue116 underlying116 (pl116 underlying116) rfl (by kernel_rfl)) ?_
    refine .u rfl rfl rfl (q_buildSl rfl underlying84 sizeOf116 zeroValue116 rfl rfl rfl rfl rfl) ?_
    refine AOps.s rfl rfl rfl ((AStep.call rfl (by exact call68) (doA_calls [mkEv c o k] (by simp [mkEv]) (by simp) (k := .full) ⟨ve, vp, hr, rfl⟩ hI)).mono ?_)
    rintro x3 h3 ⟨rfl, he3⟩
    obtain ⟨ve3, vp3, hr3, rfl⟩ := he3
    refine .nil <|
      .seq <|
      .seq <|
      .region <|
      .mP rfl rfl ?_
    refine .u rfl rfl rfl (QOp.call rfl call18 fun h' hl' => by exact err_calls (hl'.box _ _ (Hp.box_setBox _ _ _))) ?_
    refine .u rfl rfl rfl (q_neerr underlying58 rfl rfl) ?_
    refine .nil ?_
    refine AW.cond rfl (fun c1 => ?_) (fun c1 => ?_)
    · skip
      refine .seq <|
        .region <|
        .aI rfl rfl <|
        .nil ?_
      refine AW.ret ?_
      have h1 : (m.makeF c o k).err ≠ 0 := by show (m.doL _).err ≠ 0; simpa using c1
      exact retQ.mk (.one _) ⟨(rfl : _ = V.int .i64 0).trans (congrArg (V.int .i64) (by rw [Em.made, if_neg (by simpa using hz), if_pos h1])), ⟨ve3, vp3, hr3, rfl⟩⟩
    · skip
      refine AW.skip ?_
      refine .seq <|
        .region <|
        .mI rfl rfl <|
        .aI rfl rfl <|
        .nil ?_
      refine AW.ret ?_
      have h1 : ¬ (m.makeF c o k).err ≠ 0 := by show ¬ (m.doL _).err ≠ 0; simpa using c1
      exact retQ.mk (.one _) ⟨(rfl : _ = V.int .i64 m.now.objs.length).trans (congrArg (V.int .i64) (by rw [Em.made, if_neg (by simpa using hz), if_neg h1])), ⟨ve3, vp3, hr3, rfl⟩⟩

theorem rng_f {i : Int} {n : Nat} (c : (bif decide (i < 0) then true else decide ((n : Int) ≤ i)) = false) : 0 ≤ i ∧ i < n := by
  by_cases h : i < 0
  · simp [h] at c
  · simp [h] at c; omega
theorem rng_t {i : Int} {n : Nat} (c : (bif decide (i < 0) then true else decide ((n : Int) ≤ i)) = true) : ¬ (0 ≤ i ∧ i < n) := by
  by_cases h : i < 0
  · omega
  · simp [h] at c; omega
theorem rng_n {i : Int} {n : Nat} (c : (!bif decide (i < 0) then true else decide ((n : Int) ≤ i)) = true) : 0 ≤ i ∧ i < n := rng_f (by cases e : (bif decide (i < 0) then true else decide ((n : Int) ≤ i)) <;> simp_all)
theorem or_f {a b : Bool} (h : (bif a then true else b) = false) : a = false ∧ b = false := by cases a <;> simp_all
theorem or_t {a b : Bool} (h : (bif a then true else b) = true) : a = true ∨ b = true := by cases a <;> simp_all
/-- A card of an object, if it is one. -/
def kindT (s : St) (i : Int) : Card × Bool := if 0 ≤ i ∧ i < s.objs.length then ((cardE (s.objs.getD i.toNat noObj 0)).1, (cardE (s.objs.getD i.toNat noObj 0)).2 == 0) else (noCard, false)
def hasT (s : St) (i n : Int) : Bool := (kindT s i).2 && (decide (0 ≤ n) && decide (n < (kindT s i).1.abs.length))
def noAbil : Abil := ⟨0, noCost, false, 0, ⟨0, 0, 0, 0, []⟩⟩
def ofT (s : St) (i : Int) : Abil × Bool :=
  if (0 ≤ i ∧ i < s.objs.length) ∧ s.objs.getD i.toNat noObj 13 = 2 then (if hasT s i (s.objs.getD i.toNat noObj 14) then ((kindT s i).1.abs.getD (s.objs.getD i.toNat noObj 14).toNat noAbil, true) else (noAbil, false)) else (noAbil, false)

theorem kindT_calls (s : St) (i : Int) (hb : s.objs.length ≤ 1000000) (h : Hp) : ACalls prog G 27 [eState s, .int .i64 i] h fun r h' => r = .tup [eCard (kindT s i).1, .bool (kindT s i).2] ∧ h' = h := by
  refine ACalls.enter func27 rfl ntmps27 results27 rfl ?_
  refine .seq <|
    .region <|
    .bx rfl rfl ?_
  refine AOps.s rfl rfl rfl (a_alloc rfl zeroValue44 rfl (fun id4 hid4 => ?_))
  refine .aB rfl rfl <|
    .nil <|
    .seq <|
    .seq <|
    .region <|
    .mI rfl rfl <|
    .ql rfl rfl rfl <|
    .mB rfl rfl ?_
  refine .gf rfl rfl rfl (fun _ => tl0) (fun hc => q_mv rfl (rfl : _ = V.int _ _)) ?_
  refine .gf rfl rfl rfl (fun _ => tl0) (fun hc => q_fa_i rfl underlying29 rfl (by exact sizeOf22) (by decide) rfl (rfl : _ = List.drop 0 _)) ?_
  refine .gf rfl rfl rfl (fun hc => tl1 12 (.opt hc)) (fun hc => q_load_i1 rfl isAgg22 rfl rfl) ?_
  refine .gf rfl rfl rfl (fun hc => tl1 13 (.opt hc)) (fun hc => q_len rfl underlying22 rfl) ?_
  refine .gf rfl rfl rfl (fun hc => tl2 14 11 (.opt hc) (.opt hc)) (fun hc => q_ge rfl rfl rfl) ?_
  refine .pf rfl rfl rfl rfl <|
    .nil ?_
  refine AW.cond rfl (fun c0 => ?_) (fun c0 => ?_)
  · have hi := rng_t c0
    refine .seq <|
      .region ?_
    refine .u rfl rfl rfl (q_buildS (ds := [.int .i64 0, .int .i64 0, .bool false, .int .i64 0, .int .i64 0, .int .i64 0, .int .i64 0, .int .i64 0, .int .i64 0, .int .i64 0, .int .i64 0, .int .i64 0, .snil]) rfl zeroValue44 underlying44 (pl44 underlying44) rfl (by kernel_rfl)) ?_
    refine .sw sizeOf44 rfl rfl rfl rfl <|
      .aB rfl rfl <|
      .nil ?_
    refine AW.ret ?_
    exact retQ.mk' (Res.cellB1 isAgg44 sizeOf44 rfl (by exact bsb) rfl) (by rw [kindT, if_neg hi]; exact LLe.tup (.cons zCard_le.agg (.cons (.refl _) .nil))) (HLe.setBox hid4.1) ⟨rfl, rfl⟩
  · have hi := rng_f c0
    refine AW.skip ?_
    refine .seq <|
      .region <|
      .fi rfl f29_0 rfl <|
      .li rfl isAgg22 rfl rfl <|
      .mI rfl rfl ?_
    refine .u rfl rfl rfl (q_ia_s rfl underlying22 sizeOf72 rfl rfl (by omega) (by omega) (cObjs_elem' (by omega) (by omega))) ?_
    refine .u rfl rfl rfl (q_ia_ai rfl underlying72 sizeOf3 rfl rfl (by decide) (by decide) rfl) ?_
    refine .li rfl isAgg3 rfl rfl ?_
    refine .u rfl rfl rfl (QOp.call rfl call72 fun h' hl' => by exact card_calls _ h') ?_
    refine .u rfl rfl rfl (q_mv rfl (rfl : _ = V.tup _)) ?_
    refine .u rfl rfl rfl (q_extract rfl rfl rfl) ?_
    refine .u rfl rfl rfl (q_extract rfl rfl rfl) ?_
    refine AOps.s rfl rfl rfl (a_alloc rfl zeroValue44 rfl (fun id6 hid6 => ?_))
    refine .sw sizeOf44 rfl rfl rfl rfl ?_
    refine AOps.done 6 rfl hid6 ?_
    refine .u rfl rfl rfl (q_as rfl (rfl : _ = eErr _ _)) ?_
    refine .nil <|
      .seq ?_
    refine AW.draw [3] [1, 2] [(0, true), (1, true), (2, true), (3, false), (4, true)] mixed (by kernel_rfl) rfl (by kernel_rfl) ?_
    refine .q rfl rfl rfl rfl (q_load_iW rfl isAgg44 sizeOf44 rfl (by rfl)) ?_
    refine .p rfl rfl rfl (fun _ => q_mv rfl (rfl : _ = eErr _ _)) ?_
    refine .p rfl rfl rfl (fun _ => q_eqerr underlying58 rfl rfl) ?_
    refine AOrd.s0 rfl rfl rfl rfl (a_storeWA rfl sizeOf44 rfl rfl (rfl : _ = V.agg _) rfl rfl ?_)
    refine .q rfl rfl rfl rfl (q_as rfl (rfl : _ = V.bool _)) ?_
    refine AOrd.nil ?_
    refine AW.ret ?_
    exact retQ.mk' (Res.cellB1 isAgg44 sizeOf44 rfl (by exact bsb) rfl) (by rw [kindT, if_pos hi]; exact .refl _) (HLe.setBox hid4.1) ⟨rfl, rfl⟩

theorem hasT_calls (s : St) (i n : Int) (hb : s.objs.length ≤ 1000000) (h : Hp) : ACalls prog G 26 [eState s, .int .i64 i, .int .i64 n] h fun r h' => r = .bool (hasT s i n) ∧ h' = h := by
  refine ACalls.enter func26 rfl ntmps26 results26 rfl ?_
  refine .seq <|
    .region <|
    .bx rfl rfl <|
    .aB rfl rfl <|
    .nil <|
    .seq <|
    .region <|
    .lw rfl isAgg29 sizeOf29 rfl rfl <|
    .mI rfl rfl ?_
  refine .u rfl rfl rfl (QOp.call rfl call27 fun h' hl' => by exact kindT_calls s i hb h') ?_
  refine .u rfl rfl rfl (q_mv rfl (rfl : _ = V.tup _)) ?_
  refine .u rfl rfl rfl (q_extract rfl rfl rfl) ?_
  refine .u rfl rfl rfl (q_extract rfl rfl rfl) ?_
  refine AOps.s rfl rfl rfl (a_alloc rfl zeroValue44 rfl (fun id7 hid7 => ?_))
  refine .sw sizeOf44 rfl rfl rfl rfl ?_
  refine AOps.done 7 rfl hid7 ?_
  refine .aB rfl rfl <|
    .nil <|
    .seq <|
    .region <|
    .mB rfl rfl <|
    .mB rfl rfl ?_
  refine .gt rfl rfl rfl (fun _ => tl0) (fun hc => q_mv rfl (rfl : _ = V.int _ _)) ?_
  refine .gt rfl rfl rfl (fun hc => tl1 17 (.opt hc)) (fun hc => q_ge rfl rfl rfl) ?_
  refine .pt rfl rfl rfl rfl <|
    .mB rfl rfl ?_
  refine .gt rfl rfl rfl (fun _ => tl0) (fun hc => q_mv rfl (rfl : _ = V.int _ _)) ?_
  refine .gt rfl rfl rfl (fun _ => tl0) (fun hc => q_fa_i rfl underlying44 rfl (by exact sizeOf42) (by decide) rfl (rfl : _ = List.drop 12 _)) ?_
  refine .gt rfl rfl rfl (fun hc => tl1 22 (.opt hc)) (fun hc => q_load_i1 rfl isAgg42 rfl rfl) ?_
  refine .gt rfl rfl rfl (fun hc => tl1 23 (.opt hc)) (fun hc => q_len rfl underlying42 rfl) ?_
  refine .gt rfl rfl rfl (fun hc => tl2 24 21 (.opt hc) (.opt hc)) (fun hc => q_lt rfl rfl rfl) ?_
  refine .pt rfl rfl rfl rfl <|
    .aB rfl rfl <|
    .nil ?_
  refine AW.ret ?_
  exact retQ.mk' (.one _) (VLe.of_eq (congrArg V.bool (by unfold hasT; cases (kindT s i).2 <;> cases decide (0 ≤ n) <;> rfl))) (HLe.refl _) ⟨rfl, rfl⟩

theorem zAbil_le : LLe [V.int .i64 0, .int .i64 0, .int .i64 0, .int .i64 0, .int .i64 0, .int .i64 0, .int .i64 0, .bool false, .int .i64 0, .int .i64 0, .int .i64 0, .int .i64 0, .int .i64 0, .snil] (cAbil noAbil) := LLe.wk 5 _
theorem has_in {s : St} {i n : Int} (h : hasT s i n = true) : 0 ≤ n ∧ n < (kindT s i).1.abs.length := by
  simp only [hasT, Bool.and_eq_true, decide_eq_true_eq] at h; exact h.2
theorem abilT_at {l : List Abil} {n : Int} (h : 0 ≤ n ∧ n < l.length) : ((l.flatMap cAbil).drop (n.toNat * 14)).take 14 = cAbil (l.getD n.toNat noAbil) := flat_at (f := cAbil) (n := 14) (fun _ => rfl) _ (by omega)

theorem ofT_calls (s : St) (i : Int) (hb : s.objs.length ≤ 1000000) (h : Hp) : ACalls prog G 8 [eState s, .int .i64 i] h fun r h' => r = .tup [eAbil (ofT s i).1, .bool (ofT s i).2] ∧ h' = h := by
  refine ACalls.enter func8 rfl ntmps8 results8 rfl ?_
  refine .seq <|
    .region <|
    .bx rfl rfl ?_
  refine AOps.s rfl rfl rfl (a_alloc rfl zeroValue38 rfl (fun id4 hid4 => ?_))
  refine .aB rfl rfl <|
    .nil <|
    .seq <|
    .seq <|
    .region <|
    .mI rfl rfl <|
    .ql rfl rfl rfl <|
    .mB rfl rfl ?_
  refine .gf rfl rfl rfl (fun _ => tl0) (fun hc => q_mv rfl (rfl : _ = V.int _ _)) ?_
  refine .gf rfl rfl rfl (fun _ => tl0) (fun hc => q_fa_i rfl underlying29 rfl (by exact sizeOf22) (by decide) rfl (rfl : _ = List.drop 0 _)) ?_
  refine .gf rfl rfl rfl (fun hc => tl1 13 (.opt hc)) (fun hc => q_load_i1 rfl isAgg22 rfl rfl) ?_
  refine .gf rfl rfl rfl (fun hc => tl1 14 (.opt hc)) (fun hc => q_len rfl underlying22 rfl) ?_
  refine .gf rfl rfl rfl (fun hc => tl2 15 12 (.opt hc) (.opt hc)) (fun hc => q_ge rfl rfl rfl) ?_
  refine .pf rfl rfl rfl rfl <|
    .mB rfl rfl ?_
  refine .gf rfl rfl rfl (fun _ => tl0) (fun hc => q_fa_i rfl underlying29 rfl (by exact sizeOf22) (by decide) rfl (rfl : _ = List.drop 0 _)) ?_
  refine .gf rfl rfl rfl (fun hc => tl1 19 (.opt hc)) (fun hc => q_load_i1 rfl isAgg22 rfl rfl) ?_
  refine .gf rfl rfl rfl (fun _ => tl0) (fun hc => q_mv rfl (rfl : _ = V.int _ _)) ?_
  refine .gf rfl rfl rfl (fun hc => tl2 21 20 (.opt hc) (.opt hc)) (fun hc => q_ia_s rfl underlying22 sizeOf72 rfl rfl (rng_n hc).1 (rng_n hc).2 (cObjs_elem' (rng_n hc).1 (rng_n hc).2)) ?_
  refine .gf rfl rfl rfl (fun hc => tl1 22 (.opt hc)) (fun hc => q_ia_ai rfl underlying72 sizeOf3 rfl rfl (by decide) (by decide) rfl) ?_
  refine .gf rfl rfl rfl (fun hc => tl1 23 (.opt hc)) (fun hc => q_load_i1 rfl isAgg3 rfl rfl) ?_
  refine .gf rfl rfl rfl (fun hc => tl1 24 (.opt hc)) (fun hc => q_ne rfl rfl rfl) ?_
  refine .pf rfl rfl rfl rfl <|
    .nil ?_
  refine AW.cond rfl (fun c0 => ?_) (fun c0 => ?_)
  · have hno : ¬ ((0 ≤ i ∧ i < s.objs.length) ∧ s.objs.getD i.toNat noObj 13 = 2) := fun e => by
      rcases or_t c0 with c | c
      · exact rng_t c e.1
      · exact absurd e.2 (by simpa using c)
    refine .seq <|
      .region ?_
    refine .u rfl rfl rfl (q_buildS (ds := [.int .i64 0, .int .i64 0, .int .i64 0, .int .i64 0, .int .i64 0, .int .i64 0, .int .i64 0, .bool false, .int .i64 0, .int .i64 0, .int .i64 0, .int .i64 0, .int .i64 0, .snil]) rfl zeroValue38 underlying38 (pl38 underlying38) rfl (by kernel_rfl)) ?_
    refine .sw sizeOf38 rfl rfl rfl rfl <|
      .aB rfl rfl <|
      .nil ?_
    refine AW.ret ?_
    exact retQ.mk' (Res.cellB1 isAgg38 sizeOf38 rfl (by exact bsb) rfl) (by rw [ofT, if_neg hno]; exact LLe.tup (.cons zAbil_le.agg (.cons (.refl _) .nil))) (HLe.setBox hid4.1) ⟨rfl, rfl⟩
  · have hi := rng_f (or_f c0).1
    have h13 : s.objs.getD i.toNat noObj 13 = 2 := by simpa using (or_f c0).2
    refine AW.skip ?_
    refine .seq <|
      .region <|
      .fi rfl f29_0 rfl <|
      .li rfl isAgg22 rfl rfl <|
      .mI rfl rfl ?_
    refine .u rfl rfl rfl (q_ia_s rfl underlying22 sizeOf72 rfl rfl (by omega) (by omega) (cObjs_elem' (by omega) (by omega))) ?_
    refine .u rfl rfl rfl (q_ia_ai rfl underlying72 sizeOf3 rfl rfl (by decide) (by decide) rfl) ?_
    refine .li rfl isAgg3 rfl rfl <|
      .aI rfl rfl <|
      .nil <|
      .seq <|
      .seq <|
      .region <|
      .lw rfl isAgg29 sizeOf29 rfl rfl <|
      .mI rfl rfl <|
      .mI rfl rfl ?_
    refine .u rfl rfl rfl (QOp.call rfl call26 fun h' hl' => by exact hasT_calls _ _ _ hb h') ?_
    refine .nt rfl rfl <|
      .nil ?_
    refine AW.cond rfl (fun c1 => ?_) (fun c1 => ?_)
    · have hh : hasT s i (s.objs.getD i.toNat noObj 14) = false := by simpa using c1
      refine .seq <|
        .region ?_
      refine .u rfl rfl rfl (q_buildS (ds := [.int .i64 0, .int .i64 0, .int .i64 0, .int .i64 0, .int .i64 0, .int .i64 0, .int .i64 0, .bool false, .int .i64 0, .int .i64 0, .int .i64 0, .int .i64 0, .int .i64 0, .snil]) rfl zeroValue38 underlying38 (pl38 underlying38) rfl (by kernel_rfl)) ?_
      refine .sw sizeOf38 rfl rfl rfl rfl <|
        .aB rfl rfl <|
        .nil ?_
      refine AW.ret ?_
      exact retQ.mk' (Res.cellB1 isAgg38 sizeOf38 rfl (by exact bsb) rfl) (by rw [ofT, if_pos ⟨hi, h13⟩, if_neg (by rw [hh]; decide)]; exact LLe.tup (.cons zAbil_le.agg (.cons (.refl _) .nil))) (HLe.setBox hid4.1) ⟨rfl, rfl⟩
    · have hh : hasT s i (s.objs.getD i.toNat noObj 14) = true := by simpa using c1
      have hn := has_in hh
      refine AW.skip ?_
      refine .seq <|
        .region <|
        .lw rfl isAgg29 sizeOf29 rfl rfl <|
        .mI rfl rfl ?_
      refine .u rfl rfl rfl (QOp.call rfl call27 fun h' hl' => by exact kindT_calls s i hb h') ?_
      refine .u rfl rfl rfl (q_mv rfl (rfl : _ = V.tup _)) ?_
      refine .u rfl rfl rfl (q_extract rfl rfl rfl) ?_
      refine .u rfl rfl rfl (q_extract rfl rfl rfl) ?_
      refine AOps.s rfl rfl rfl (a_alloc rfl zeroValue44 rfl (fun id7 hid7 => ?_))
      refine .sw sizeOf44 rfl rfl rfl rfl ?_
      refine AOps.done 7 rfl hid7 ?_
      refine .aB rfl rfl <|
        .nil <|
        .seq <|
        .region <|
        .fi rfl f44_12 rfl <|
        .li rfl isAgg42 rfl rfl <|
        .mI rfl rfl ?_
      refine .u rfl rfl rfl (q_ia_s rfl underlying42 sizeOf38 rfl rfl hn.1 hn.2 (abilT_at hn)) ?_
      refine .lw rfl isAgg38 sizeOf38 rfl rfl <|
        .sw sizeOf38 rfl rfl rfl rfl <|
        .aB rfl rfl <|
        .nil ?_
      refine AW.ret ?_
      exact retQ.mk' (Res.cellB1 isAgg38 sizeOf38 rfl (by exact bsb) rfl) (by rw [ofT, if_pos ⟨hi, h13⟩, if_pos hh]; exact .refl _) (HLe.setBox hid4.1) ⟨rfl, rfl⟩

end Go.Proofs.YtagcjkbogaoifaaGreatDoor
/- What is laid into a memory: the order does not matter. -/
namespace Go.Proofs.YtagcjkbogaoifaaGreatDoor
open Go Go.AV Go.Proofs.Tryz
set_option maxRecDepth 100000
/-- What is laid into a memory: a row that grows, a box. -/
inductive It where
  | tok (v : V)
  | box (id : Nat) (cs : List V)
def It.add : It → Hp → Hp
  | .tok v, h => addTok v h
  | .box id cs, h => h.setBox id cs
def It.fr : It → Hp → Prop
  | .tok v, h => vFresh v h
  | .box id _, h => h.fresh id
theorem vf_box {v : V} {h : Hp} {i : Nat} {cs : List V} (f : h.fresh i) (fv : vFresh v (h.setBox i cs)) : vFresh v h ∧ (addTok v h).fresh i := by
  unfold vFresh addTok at *
  split
  · rename_i t n len c
    simp only at fv
    have hne : t ≠ i := fun e => by subst e; have := fv.1; simp at this
    exact ⟨⟨by have := fv.1; rwa [Hp.box_setBox_ne _ _ hne] at this, fv.2⟩, ⟨f.1, by rw [Hp.tok_setTok_ne _ _ hne.symm]; exact f.2⟩⟩
  · exact ⟨trivial, f⟩
theorem box_vf {v : V} {h : Hp} {i : Nat} {cs : List V} (fv : vFresh v h) (f : (addTok v h).fresh i) : h.fresh i ∧ vFresh v (h.setBox i cs) := by
  by_cases hv : ∃ t n len cs, v = .sl (.own t) n len cs
  · obtain ⟨t, n, len, c, rfl⟩ := hv
    have hne : t ≠ i := fun e => by subst e; have := f.2; simp [addTok] at this
    exact ⟨⟨f.1, by have := f.2; simp only [addTok] at this; rwa [Hp.tok_setTok_ne _ _ hne.symm] at this⟩, ⟨by rw [Hp.box_setBox_ne _ _ hne]; exact fv.1, fv.2⟩⟩
  · have e : ∀ h, addTok v h = h := fun h => by unfold addTok; split <;> first | rfl | (rename_i t n len cs; exact absurd ⟨t, n, len, cs, rfl⟩ hv)
    refine ⟨by rwa [e] at f, ?_⟩
    unfold vFresh; split <;> first | trivial | (rename_i t n len cs; exact absurd ⟨t, n, len, cs, rfl⟩ hv)
theorem It.swap {a b : It} {h : Hp} (fa : a.fr h) (fb : b.fr (a.add h)) : b.add (a.add h) = a.add (b.add h) ∧ b.fr h ∧ a.fr (b.add h) := by
  cases a with
  | tok v =>
    cases b with
    | tok u =>
      obtain ⟨p, q, r⟩ := tok_swap (u := v) (v := u) fa fb
      exact ⟨p, q, r⟩
    | box i cs => exact ⟨(addTok_setBox _ _ _ _).symm, box_vf (cs := cs) fa fb⟩
  | box i cs =>
    cases b with
    | tok v => exact ⟨addTok_setBox _ _ _ _, vf_box fa fb⟩
    | box j ds =>
      have := fresh_pair (d := ds) fa fb
      exact ⟨Hp.setBox_comm _ _ _ (fresh_ne fb), this.1, this.2⟩
inductive Lay : List It → Hp → Hp → Prop
  | nil (h : Hp) : Lay [] h h
  | cons {a : It} {l : List It} {h h' : Hp} : a.fr h → Lay l (a.add h) h' → Lay (a :: l) h h'
theorem Lay.perm {l l' : List It} (p : l.Perm l') : ∀ {h h' : Hp}, Lay l h h' → Lay l' h h' := by
  induction p with
  | nil => exact fun x => x
  | cons a _ ih =>
    intro h h' x
    cases x with | cons f x => exact .cons f (ih x)
  | swap a b l =>
    intro h h' x
    cases x with | cons f x => cases x with | cons g x =>
    obtain ⟨e, f1, f2⟩ := It.swap f g
    rw [e] at x
    exact .cons f1 (.cons f2 x)
  | trans _ _ i1 i2 => exact fun x => i2 (i1 x)
theorem Lay.append {l l' : List It} : ∀ {h h1 h2 : Hp}, Lay l h h1 → Lay l' h1 h2 → Lay (l ++ l') h h2 := by
  induction l with
  | nil => intro h h1 h2 x y; cases x; exact y
  | cons a l ih => intro h h1 h2 x y; cases x with | cons f x => exact .cons f (ih x y)
theorem Lay.split {l l' : List It} : ∀ {h h2 : Hp}, Lay (l ++ l') h h2 → ∃ h1, Lay l h h1 ∧ Lay l' h1 h2 := by
  induction l with
  | nil => intro h h2 x; exact ⟨h, .nil h, x⟩
  | cons a l ih =>
    intro h h2 x
    cases x with | cons f x =>
    obtain ⟨h1, x1, x2⟩ := ih x
    exact ⟨h1, .cons f x1, x2⟩
theorem Lay.swap {l l' : List It} {h h1 h2 : Hp} (x : Lay l h h1) (y : Lay l' h1 h2) : ∃ h1', Lay l' h h1' ∧ Lay l h1' h2 :=
  (Lay.perm List.perm_append_comm (x.append y)).split
theorem EmAt.lay {h0 h : Hp} {id : Nat} {m : Em} : EmAt h0 id m h ↔ ∃ ve vp, AccV 6 m.evs.length (cEvs m.evs) ve ∧ AccV 3 m.pend.length (cPds m.pend) vp ∧ Lay [.tok vp, .tok ve, .box id (emCells m ve vp)] h0 h := by
  constructor
  · rintro ⟨ve, vp, r, rfl⟩
    exact ⟨ve, vp, r.ae, r.ap, .cons r.fp (.cons r.fe (.cons r.fi (.nil _)))⟩
  · rintro ⟨ve, vp, a, b, x⟩
    cases x with | cons f x => cases x with | cons g x => cases x with | cons k x =>
    cases x
    exact ⟨ve, vp, ⟨a, b, f, g, k⟩, rfl⟩
end Go.Proofs.YtagcjkbogaoifaaGreatDoor
/- Walks: what was pending is taken, and put on the stack. -/
namespace Go.Proofs.YtagcjkbogaoifaaGreatDoor
open Go Go.AV Go.Proofs.Tryz
set_option maxRecDepth 100000
set_option maxHeartbeats 1000000
theorem Lay.one {a : It} {h h' : Hp} (x : Lay [a] h h') : a.fr h ∧ h' = a.add h := by
  cases x with | cons f x => cases x; exact ⟨f, rfl⟩
def Em.noPend (m : Em) : Em := ⟨m.now, m.draws, m.evs, [], m.err⟩
theorem HLe.set {a b : Hp} {i : Nat} {c : List V} (l : HLe a b) : HLe (a.setBox i c) (b.setBox i c) := by
  refine ⟨fun j cs e => ?_, l.tok⟩
  by_cases h : i = j
  · subst h; rw [Hp.box_setBox] at e ⊢; exact e
  · have h' : j ≠ i := fun e => h e.symm
    rw [Hp.box_setBox_ne _ _ h'] at e ⊢; exact l.box _ _ e
/-- What was pending is no more: its row is forgotten. -/
theorem EmR.noPend {h0 : Hp} {id : Nat} {m : Em} {ve vp : V} (r : EmR h0 id m ve vp) : ∃ h1, EmAt h0 id m.noPend h1 ∧ HLe ((addTok ve (addTok vp h0)).setBox id (emCells m.noPend ve .snil)) h1 := by
  have x : Lay [.tok vp, .tok ve, .box id (emCells m.noPend ve .snil)] h0 ((addTok ve (addTok vp h0)).setBox id (emCells m.noPend ve .snil)) := .cons r.fp (.cons r.fe (.cons r.fi (.nil _)))
  have p : [It.tok vp, .tok ve, .box id (emCells m.noPend ve .snil)].Perm ([.tok ve, .box id (emCells m.noPend ve .snil)] ++ [.tok vp]) := (List.perm_append_comm (l₁ := [It.tok vp]) (l₂ := [.tok ve, .box id (emCells m.noPend ve .snil)]))
  obtain ⟨h1, x1, x2⟩ := (x.perm p).split
  refine ⟨h1, EmAt.lay.2 ⟨ve, .snil, r.ae, ⟨rfl, .inl ⟨rfl, rfl, rfl⟩⟩, .cons trivial x1⟩, ?_⟩
  obtain ⟨f, e⟩ := x2.one
  rw [e]; exact addTok_le f

/-- A copy that may be written to. -/
theorem clonePM_calls (k : SK) (l : List Pd) (hb : l.length ≤ 1000000) (h0 : 0 < l.length) (h : Hp) : ACalls prog G 50 [.sl k 3 l.length (cPds l)] h fun r h' => ∃ id slack, h.fresh id ∧ r = .msl id 0 l.length ∧ h' = h.setBox id (cPds l ++ slack) := by
  refine ACalls.enter func50 rfl ntmps50 results50 rfl ?_
  refine .seq <|
    .region <|
    .aN rfl rfl <|
    .nil <|
    .seq <|
    .seq <|
    .region <|
    .mS rfl rfl ?_
  refine AOps.s rfl rfl rfl (a_eqnil_sl underlying53 rfl rfl (fun b hnil => ?_))
  refine .nil ?_
  refine AW.cond rfl (fun c0 => ?_) (fun c0 => ?_)
  · skip
    refine .seq <|
      .region <|
      .aN rfl rfl <|
      .nil ?_
    refine AW.ret ?_
    exact absurd (hnil c0).2 (by omega)
  · skip
    refine AW.skip ?_
    refine .seq <|
      .region ?_
    refine .u rfl rfl rfl (q_buildSl (ds := []) rfl underlying53 sizeOf95 zeroValue95 rfl rfl rfl rfl rfl) ?_
    refine .mS rfl rfl ?_
    refine AOps.s rfl rfl rfl (a_append_box rfl underlying53 (i := t95) (by kernel_rfl) rfl (n := 3) (by' := 24) rfl rfl rfl rfl rfl (by simp [cPds_len]) h0 (by decide) (by omega) (by omega) rfl (fun id7 hid7 slack => ?_))
    refine .u rfl rfl rfl (q_as rfl (rfl : _ = V.msl _ _ _)) ?_
    refine .nil ?_
    refine AW.ret ?_
    exact retQ.mk' (.one _) (VLe.refl _) (.refl _) ⟨id7, slack, hid7, rfl, rfl⟩

theorem pendingM_calls {m : Em} {ve vp : V} {id : Nat} {h : Hp} (hb : h.box id = some (emCells m ve vp)) (hvp : AccV 3 m.pend.length (cPds m.pend) vp) (ho : m.pend.length ≤ 1000000) (hz : m.err = 0) (hn : 0 < m.pend.length) : ACalls prog G 15 [.ptr id 0] h fun r h' => ∃ idc slack, h.fresh idc ∧ r = .msl idc 0 m.pend.length ∧ h' = h.setBox idc (cPds m.pend ++ slack) := by
  refine ACalls.enter func15 rfl ntmps15 results15 rfl ?_
  refine .seq <|
    .region <|
    .aN rfl rfl <|
    .nil <|
    .seq <|
    .seq <|
    .region <|
    .mP rfl rfl ?_
  refine .u rfl rfl rfl (QOp.call rfl call18 fun h' hl' => by exact err_calls (hl'.box _ _ hb)) ?_
  refine .u rfl rfl rfl (q_neerr underlying58 rfl rfl) ?_
  refine .nil ?_
  refine AW.cond rfl (fun c0 => ?_) (fun c0 => ?_)
  · simp [hz] at c0
  · skip
    refine AW.skip ?_
    refine .seq <|
      .region <|
      .mP rfl rfl <|
      .nP rfl rfl <|
      .fb rfl f86_39 rfl rfl ?_
    refine .u rfl rfl rfl (q_load_b1 rfl isAgg53 rfl (hb) rfl) ?_
    refine AOps.s rfl rfl rfl ((AStep.call rfl (by exact call50) (by exact ACalls.args (bs := [ePds m.pend]) rfl (fun j => match j with | 0 => hvp.imm | j + 1 => .refl _) (clonePM_calls .imm m.pend ho hn _))).mono ?_)
    rintro x1 h1 ⟨idc, slack, hidc, rfl, rfl⟩
    refine .u rfl rfl rfl (q_as rfl (rfl : _ = V.msl _ _ _)) ?_
    refine .nil ?_
    refine AW.ret ?_
    exact retQ.mk (.one _) ⟨idc, slack, hidc, rfl, rfl⟩

theorem taken0_calls {h0 : Hp} {id : Nat} {m : Em} {h : Hp} (he : EmAt h0 id m h) (hn : m.pending = []) (ho : m.pend.length ≤ 1000000) : ACalls prog G 49 [.ptr id 0] h fun r h' => r = ePds [] ∧ EmAt h0 id m.noPend h' := by
  obtain ⟨ve, vp, hr, rfl⟩ := he
  obtain ⟨h1, he1, hle1⟩ := hr.noPend
  refine ACalls.enter func49 rfl ntmps49 results49 rfl ?_
  refine .seq <|
    .region <|
    .aN rfl rfl <|
    .nil <|
    .seq <|
    .region <|
    .mP rfl rfl ?_
  refine .u rfl rfl rfl (QOp.call (x := ePds []) rfl (by exact call15) fun h' hl' => by rw [← hn]; exact pending_calls (hl'.box _ _ (Hp.box_setBox _ _ _)) hr.ap ho) ?_
  refine .aS rfl rfl <|
    .nil <|
    .seq <|
    .seq <|
    .region <|
    .mP rfl rfl ?_
  refine .u rfl rfl rfl (q_nenil underlying48 rfl rfl rfl) ?_
  refine .nil ?_
  refine AW.cond rfl (fun c0 => ?_) (fun c0 => ?_)
  · skip
    refine .region <|
      .mP rfl rfl <|
      .nP rfl rfl <|
      .fb rfl f86_39 rfl rfl ?_
    refine AOps.s0 rfl rfl (a_store1 rfl sizeOf53 rfl (by exact bsb) (rfl : _ = V.snil) rfl rfl (by first | decide | exact Nat.le_of_ble_eq_true rfl) ?_)
    refine .nil <|
      .seq <|
      .region <|
      .mS rfl rfl <|
      .aS rfl rfl <|
      .nil ?_
    refine AW.ret ?_
    exact retQ.mk' (.one _) (VLe.refl _) (by rw [Hp.setBox_setBox]; exact hle1) ⟨rfl, he1⟩
  · cases c0

theorem takenM_calls {h0 : Hp} {id : Nat} {m : Em} {h : Hp} (he : EmAt h0 id m h) (hz : m.err = 0) (hn : 0 < m.pend.length) (ho : m.pend.length ≤ 1000000) : ACalls prog G 49 [.ptr id 0] h fun r h' => ∃ h1 idc slack, EmAt h0 id m.noPend h1 ∧ h1.fresh idc ∧ r = .msl idc 0 m.pend.length ∧ h' = h1.setBox idc (cPds m.pend ++ slack) := by
  obtain ⟨ve, vp, hr, rfl⟩ := he
  obtain ⟨h1, he1, hle1⟩ := hr.noPend
  refine ACalls.enter func49 rfl ntmps49 results49 rfl ?_
  refine .seq <|
    .region <|
    .aN rfl rfl <|
    .nil <|
    .seq <|
    .region <|
    .mP rfl rfl ?_
  refine AOps.s rfl rfl rfl ((AStep.call rfl (by exact call15) (pendingM_calls (Hp.box_setBox _ _ _) hr.ap ho hz hn)).mono ?_)
  rintro x1 h2 ⟨idc, slack, hidc, rfl, rfl⟩
  have nec : id ≠ idc := Hp.ne_of_box (Hp.box_setBox _ _ _) hidc.1
  refine .u rfl rfl rfl (q_as rfl (rfl : _ = V.msl _ _ _)) ?_
  refine .nil <|
    .seq <|
    .seq <|
    .region <|
    .mP rfl rfl ?_
  refine .u rfl rfl rfl (q_nenil underlying48 rfl rfl rfl) ?_
  refine .nil ?_
  refine AW.cond rfl (fun c0 => ?_) (fun c0 => ?_)
  · skip
    refine .region <|
      .mP rfl rfl <|
      .nP rfl rfl <|
      .fb rfl f86_39 rfl rfl ?_
    refine AOps.s0 rfl rfl (a_store1 rfl sizeOf53 rfl (by exact (Hp.box_setBox_ne _ _ nec).trans (Hp.box_setBox _ _ _)) (rfl : _ = V.snil) rfl rfl (by exact Nat.le_of_ble_eq_true rfl) ?_)
    refine .nil <|
      .seq <|
      .region ?_
    refine .u rfl rfl rfl (q_mv rfl (rfl : _ = V.msl _ _ _)) ?_
    refine .u rfl rfl rfl (q_as rfl (rfl : _ = V.msl _ _ _)) ?_
    refine .nil ?_
    refine AW.ret ?_
    have hf1 : h1.fresh idc := by
      have hi := hidc
      refine ⟨?_, ?_⟩
      · cases e : h1.box idc with
        | none => rfl
        | some c => have := hle1.box _ _ e; rw [Hp.box_setBox_ne _ _ nec.symm] at this; have h3 := hi.1; rw [Hp.box_setBox_ne _ _ nec.symm] at h3; rw [h3] at this; cases this
      · cases e : h1.tok idc with
        | none => rfl
        | some n => have := hle1.tok _ _ e; have h3 := hi.2; rw [show ((addTok ve (addTok vp h0)).setBox id (emCells m ve vp)).tok idc = ((addTok ve (addTok vp h0)).setBox id (emCells m.noPend ve .snil)).tok idc from rfl] at h3; rw [h3] at this; cases this
    exact retQ.mk' (.one _) (VLe.refl _) (by rw [Hp.setBox_comm _ _ _ nec.symm, Hp.setBox_setBox]; exact HLe.set hle1) ⟨h1, idc, slack, he1, hf1, rfl, rfl⟩
  · cases c0

theorem ins1_calls {v x : V} (k : Nat) (hn : k ≤ 1) (h : Hp) : ACalls prog G 185 [v, .int .i64 0, .int .i64 k, x] h fun r h' => r = .tup [] ∧ h' = h := by
  refine ACalls.enter func185 rfl ntmps185 results185 rfl ?_
  refine .seq <|
    .region <|
    .mI rfl rfl <|
    .ad rfl rfl rfl (by omega) <|
    .aI rfl rfl <|
    .nil <|
    .block ?_
  refine AW.loop (fun n T hh => ∃ (i : Nat) , i ≤ 0 ∧ n = 0 - i ∧ T = put (put (T0) 8 (V.int .i64 (1 : Nat))) 2 (V.int .i64 k) ∧ hh = h ∧ True) (0) ?_ ?_
  · skip
    refine Wk.mk (TLe.put (d := 2) (VLe.refl _) (TLe.put (d := 8) (VLe.refl _) (TLe.zero _))) (HLe.refl _) ⟨0, Nat.zero_le _, rfl, rfl, rfl, trivial⟩
  · skip
    rintro n T h' ⟨i, hi, rfl, rfl, rfl, hinv⟩
    refine .seq <|
      .seq <|
      .region <|
      .mI rfl rfl <|
      .mI rfl rfl <|
      .ql rfl rfl rfl <|
      .nil ?_
    refine AW.cond rfl (fun c0 => ?_) (fun c0 => ?_)
    · have hlt : i < 0 := by have := of_decide_eq_true c0; omega
      have := of_decide_eq_true c0; omega
    · skip
      refine AW.exit ?_
      exact retQ.mk .none ⟨rfl, rfl⟩

theorem stab1_calls {v x : V} (k : Nat) (hn : k ≤ 1) (h : Hp) : ACalls prog G 149 [v, .int .i64 k, x] h fun r h' => r = .tup [] ∧ h' = h := by
  refine ACalls.enter func149 rfl ntmps149 results149 rfl ?_
  refine .seq <|
    .region <|
    .aI rfl rfl <|
    .nil <|
    .seq <|
    .region <|
    .mI rfl rfl <|
    .aI rfl rfl <|
    .aI rfl rfl <|
    .nil <|
    .seq <|
    .block ?_
  refine AW.loop (fun n T hh => ∃ (i : Nat) , i ≤ 0 ∧ n = 0 - i ∧ T = put (put (put (put (put (put (T0) 8 (V.int .i64 20)) 7 (V.int .i64 0)) 6 (V.int .i64 20)) 2 (x)) 1 (V.int .i64 k)) 0 (v) ∧ hh = h ∧ True) (0) ?_ ?_
  · skip
    refine Wk.mk (TLe.put (d := 0) (VLe.refl _) (TLe.put (d := 1) (VLe.refl _) (TLe.put (d := 2) (VLe.refl _) (TLe.put (d := 6) (VLe.refl _) (TLe.put (d := 7) (VLe.refl _) (TLe.put (d := 8) (VLe.refl _) (TLe.zero _))))))) (HLe.refl _) ⟨0, Nat.zero_le _, rfl, rfl, rfl, trivial⟩
  · skip
    rintro n T h' ⟨i, hi, rfl, rfl, rfl, hinv⟩
    refine .seq <|
      .seq <|
      .region <|
      .mI rfl rfl <|
      .mI rfl rfl ?_
    refine .u rfl rfl rfl (q_le rfl rfl rfl) ?_
    refine .nil ?_
    refine AW.cond rfl (fun c0 => ?_) (fun c0 => ?_)
    · have hlt : i < 0 := by have := of_decide_eq_true c0; omega
      have := of_decide_eq_true c0; omega
    · skip
      refine AW.exit ?_
      refine .seq <|
        .region ?_
      refine .u rfl rfl rfl (q_mv rfl (rfl : _ = v)) ?_
      refine .mI rfl rfl <|
        .mI rfl rfl ?_
      refine .u rfl rfl rfl (q_mv rfl (rfl : _ = x)) ?_
      refine .u rfl rfl rfl (QOp.call rfl call185 fun h' hl' => by exact ins1_calls k hn h') ?_
      refine .nil <|
        .block ?_
      refine AW.loop (fun n T hh => ∃ (i : Nat) , i ≤ 0 ∧ n = 0 - i ∧ T = put (put (T0) 6 (V.int .i64 20)) 1 (V.int .i64 k) ∧ hh = h' ∧ True) (0) ?_ ?_
      · skip
        refine Wk.mk (TLe.put (d := 1) (VLe.refl _) (TLe.put (d := 6) (VLe.refl _) (TLe.zero _))) (HLe.refl _) ⟨0, Nat.zero_le _, rfl, rfl, rfl, trivial⟩
      · skip
        rintro n T h' ⟨i, hi, rfl, rfl, rfl, hinv⟩
        refine .seq <|
          .seq <|
          .region <|
          .mI rfl rfl <|
          .mI rfl rfl <|
          .ql rfl rfl rfl <|
          .nil ?_
        refine AW.cond rfl (fun c1 => ?_) (fun c1 => ?_)
        · have hlt : i < 0 := by have := of_decide_eq_true c1; omega
          have := of_decide_eq_true c1; omega
        · skip
          refine AW.exit ?_
          exact retQ.mk .none ⟨rfl, rfl⟩

theorem sort1_calls {v x : V} (k : Nat) (hn : k ≤ 1) (hv : v.len? = some k) (h : Hp) : ACalls prog G 99 [v, x] h fun r h' => r = .tup [] ∧ h' = h := by
  refine ACalls.enter func99 rfl ntmps99 results99 rfl ?_
  refine .region ?_
  refine .u rfl rfl rfl (q_mv rfl (rfl : _ = v)) ?_
  refine .u rfl rfl rfl (q_mv rfl (rfl : _ = v)) ?_
  refine .u rfl rfl rfl (q_len rfl underlying53 (by exact hv)) ?_
  refine .u rfl rfl rfl (q_mv rfl (rfl : _ = x)) ?_
  refine .u rfl rfl rfl (QOp.call rfl call149 fun h' hl' => by exact stab1_calls k hn h') ?_
  refine .nil ?_
  exact retQ.mk .none ⟨rfl, rfl⟩

end Go.Proofs.YtagcjkbogaoifaaGreatDoor
