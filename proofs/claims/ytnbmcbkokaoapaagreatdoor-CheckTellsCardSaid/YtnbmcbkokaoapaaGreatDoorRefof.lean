/- Walks: a creature's shape, by the document. -/
import Derived.Test.YtnbmcbkokaoapaaGreatDoorRefshape
namespace Go.Proofs.YtnbmcbkokaoapaaGreatDoor
open Go Go.AV
set_option maxRecDepth 100000
set_option maxHeartbeats 1000000
def noRS : RStat := ⟨0, ⟨0, 0, 0, 0, []⟩⟩
def e0 (x : RStat) : Eff0 := x.doo.subs.getD 0 noEff0
theorem sub_e0 {x : RStat} (h : 0 < x.doo.subs.length) : ((x.doo.subs.flatMap cEff0).drop (Int.toNat 0 * 5)).take 5 = cEff0 (e0 x) := sub_at h
def becStep (s : St) (i : Int) (a : Int × Int) (x : RStat) : Int × Int := bif (bif (e0 x).op == 24 then withinF s x i else false) then ((e0 x).n, (e0 x).m) else a
def pumStep (s : St) (i : Int) (a : Int × Int) (x : RStat) : Int × Int := bif (bif (e0 x).op == 10 then withinF s x i else false) then (a.1 + (e0 x).n, a.2 + (e0 x).m) else a
def worStep (s : St) (i : Int) (w : Int) (x : RStat) : Int := bif (bif (bif (e0 x).op == 23 then true else (e0 x).op == 25) then withinF s x i else false) then turnedF w (e0 x).n ((e0 x).op == 23) else w
def becUp (s : St) (i : Int) (k : Nat) : Int × Int := ((rstatsF s).take k).foldl (becStep s i) ((kindF s i).power, (kindF s i).tough)
def becF (s : St) (i : Int) : Int × Int := (rstatsF s).foldl (becStep s i) ((kindF s i).power, (kindF s i).tough)
def pumUp (s : St) (i : Int) (k : Nat) : Int × Int := ((rstatsF s).take k).foldl (pumStep s i) ((becF s i).1 + s.objs.getD i.toNat noObj 7, (becF s i).2 + s.objs.getD i.toNat noObj 7)
def pumF (s : St) (i : Int) : Int × Int := (rstatsF s).foldl (pumStep s i) ((becF s i).1 + s.objs.getD i.toNat noObj 7, (becF s i).2 + s.objs.getD i.toNat noObj 7)
def worUp (s : St) (i : Int) (k : Nat) : Int := ((rstatsF s).take k).foldl (worStep s i) (kindF s i).says
def worF (s : St) (i : Int) : Int := (rstatsF s).foldl (worStep s i) (kindF s i).says
/-- A creature's shape, by the document. -/
def rofF (s : St) (i : Int) : Sh := ⟨(pumF s i).1 + s.objs.getD i.toNat noObj 8, (pumF s i).2 + s.objs.getD i.toNat noObj 9, IntKind.i64.wrap (turnedF (worF s i) (s.objs.getD i.toNat noObj 10) true)⟩
theorem fold_succ {α β : Type} {f : β → α → β} {b : β} {l : List α} {z : α} {k : Nat} (h : k < l.length) : (l.take (k + 1)).foldl f b = f ((l.take k).foldl f b) (l.getD k z) := by
  rw [List.take_add_one, List.getElem?_eq_getElem h, Option.toList_some, List.foldl_append, getD_of' h]; rfl
theorem fold_in {α β : Type} {f : β → α → β} {b : β} {p : β → Prop} : ∀ {l : List α} {b : β} (_ : p b) (_ : ∀ b x, x ∈ l → p b → p (f b x)), p (l.foldl f b)
  | [], _, h, _ => h
  | x :: l, b, h, hs => fold_in (b := f b x) (l := l) (hs b x (by simp) h) fun b y hy hb => hs b y (by simp [hy]) hb
theorem cardF_words : ∀ k : Fin 120, (decide (0 ≤ (cardF (k.val : Int)).says) && decide ((cardF (k.val : Int)).says < 256) && (cardF (k.val : Int)).abs.all fun a => a.when != 5 || (decide (0 < a.doo.subs.length) && decide (0 ≤ a.doo.n) && decide (a.doo.n ≤ 3) && a.doo.subs.all fun e => (e.op != 23 && e.op != 25) || (decide (0 ≤ e.n) && decide (e.n < 256)))) = true := by decide +kernel
theorem cardE_words (n : Int) : (0 ≤ (cardE n).1.says ∧ (cardE n).1.says < 256) ∧ ∀ a ∈ (cardE n).1.abs, a.when = 5 → 0 < a.doo.subs.length ∧ 0 ≤ a.doo.n ∧ a.doo.n ≤ 3 ∧ ∀ e ∈ a.doo.subs, e.op = 23 ∨ e.op = 25 → 0 ≤ e.n ∧ e.n < 256 := by
  unfold cardE
  split
  · simp [noCard]
  · rename_i h
    have := cardF_words ⟨n.toNat, by omega⟩
    have e : ((n.toNat : Nat) : Int) = n := by omega
    simp only [e, Bool.and_eq_true, decide_eq_true_eq, List.all_eq_true] at this
    refine ⟨this.1, fun a ha hw => ?_⟩
    have h1 := this.2 a ha
    simp only [hw, Bool.or_eq_true, Bool.and_eq_true, decide_eq_true_eq, bne_iff_ne, ne_eq, not_true_eq_false, false_or, List.all_eq_true] at h1
    refine ⟨h1.1.1.1, h1.1.1.2, h1.1.2, fun e he hop => ?_⟩
    rcases h1.2 e he with h2 | h2
    · omega
    · exact h2
theorem rstat_ok {s : St} (hz : ∀ id ∈ s.lists 8, 0 ≤ id ∧ id < s.objs.length) : ∀ x ∈ rstatsF s, (0 ≤ x.id ∧ x.id < s.objs.length) ∧ 0 < x.doo.subs.length ∧ sm (e0 x).n (e0 x).m ∧ (0 ≤ x.doo.n ∧ x.doo.n ≤ 3) ∧ ((e0 x).op = 23 ∨ (e0 x).op = 25 → 0 ≤ (e0 x).n ∧ (e0 x).n < 256) := by
  intro x hx
  simp only [rstatsF, List.mem_flatMap, rstatsOf, rAbs, List.mem_map, List.mem_filter, beq_iff_eq] at hx
  obtain ⟨id, hid, a, ⟨ha, hw⟩, rfl⟩ := hx
  have h1 := (cardE_words (s.objs.getD id.toNat noObj 0)).2 a ha hw
  have h2 := (cardE_small (s.objs.getD id.toNat noObj 0)).1 a ha
  have hm : a.doo.subs.getD 0 noEff0 ∈ a.doo.subs := getD_mem' h1.1
  exact ⟨hz id hid, h1.1, h2 _ hm, ⟨h1.2.1, h1.2.2.1⟩, h1.2.2.2 _ hm⟩
def bd2 (c : Int) (a : Int × Int) : Prop := -c ≤ a.1 ∧ a.1 ≤ c ∧ -c ≤ a.2 ∧ a.2 ≤ c
theorem becUp_bd {s : St} {i : Int} (hz : ∀ id ∈ s.lists 8, 0 ≤ id ∧ id < s.objs.length) : bd2 1000 (becF s i) := by
  refine fold_in (b := ((0 : Int), (0 : Int))) (p := bd2 1000) ?_ fun b x hx hb => ?_
  · have := (cardE_small (s.objs.getD i.toNat noObj 0)).2
    exact this
  · have := (rstat_ok hz x hx).2.2.1
    unfold becStep
    cases (bif (e0 x).op == 24 then withinF s x i else false)
    · exact hb
    · exact this
theorem pumUp_zero {s : St} {i : Int} : pumUp s i 0 = ((becF s i).1 + s.objs.getD i.toNat noObj 7, (becF s i).2 + s.objs.getD i.toNat noObj 7) := rfl
theorem pumUp_bd {s : St} {i : Int} (hz : ∀ id ∈ s.lists 8, 0 ≤ id ∧ id < s.objs.length) (hob : obd (s.objs.getD i.toNat noObj)) (k : Nat) (hk : k ≤ (rstatsF s).length) : bd2 (1073742824 + 1000 * k) (pumUp s i k) := by
  obtain ⟨⟨a, b⟩, _⟩ := hob
  induction k with
  | zero =>
    have := becUp_bd (i := i) hz
    rw [pumUp_zero]; unfold bd2 at *; simp only; omega
  | succ k ih =>
    have ih := ih (by omega)
    have hx := (rstat_ok hz _ (getD_mem' (z := noRS) hk)).2.2.1
    rw [pumUp, fold_succ (z := noRS) hk, ← pumUp, pumStep]
    have e : (1073742824 + 1000 * ((k + 1 : Nat) : Int)) = 1073742824 + 1000 * (k : Int) + 1000 := by omega
    obtain ⟨h1, h2, h3, h4⟩ := ih; obtain ⟨y1, y2, y3, y4⟩ := hx
    rw [e]
    cases (bif (e0 ((rstatsF s).getD k noRS)).op == 10 then withinF s ((rstatsF s).getD k noRS) i else false)
    · refine ⟨?_, ?_, ?_, ?_⟩ <;> simp only [cond_false] <;> omega
    · refine ⟨?_, ?_, ?_, ?_⟩ <;> simp only [cond_true] <;> omega
theorem worUp_in {s : St} {i : Int} (k : Nat) : 0 ≤ worUp s i k ∧ worUp s i k < 18446744073709551616 := by
  refine fold_in (b := (0 : Int)) (p := fun w => 0 ≤ w ∧ w < 18446744073709551616) ?_ fun b x hx hb => ?_
  · have := (cardE_words (s.objs.getD i.toNat noObj 0)).1
    exact ⟨this.1, Int.lt_trans this.2 (by decide)⟩
  · unfold worStep
    cases (bif (bif (e0 x).op == 23 then true else (e0 x).op == 25) then withinF s x i else false)
    · exact hb
    · exact turned_in64 hb 8
theorem becUp_succ {s : St} {i : Int} {k : Nat} (h : k < (rstatsF s).length) : becUp s i (k + 1) = becStep s i (becUp s i k) ((rstatsF s).getD k noRS) := fold_succ h
theorem pumUp_succ {s : St} {i : Int} {k : Nat} (h : k < (rstatsF s).length) : pumUp s i (k + 1) = pumStep s i (pumUp s i k) ((rstatsF s).getD k noRS) := fold_succ h
theorem worUp_succ {s : St} {i : Int} {k : Nat} (h : k < (rstatsF s).length) : worUp s i (k + 1) = worStep s i (worUp s i k) ((rstatsF s).getD k noRS) := fold_succ h
theorem becUp_all {s : St} {i : Int} : becUp s i (rstatsF s).length = becF s i := by rw [becUp, List.take_length]; rfl
theorem pumUp_all {s : St} {i : Int} : pumUp s i (rstatsF s).length = pumF s i := by rw [pumUp, List.take_length]; rfl
theorem worUp_all {s : St} {i : Int} : worUp s i (rstatsF s).length = worF s i := by rw [worUp, List.take_length]; rfl
theorem wor_op {a b w : Bool} (h : (bif (bif a then true else b) then w else false) = true) : a = true ∨ b = true := by cases a <;> cases b <;> simp_all

theorem refOf_calls (s : St) (i : Int) (hi : 0 ≤ i ∧ i < s.objs.length) (hz : ∀ id ∈ s.lists 8, 0 ≤ id ∧ id < s.objs.length) (hl : (s.lists 8).length ≤ 1000000) (hob : obd (s.objs.getD i.toNat noObj)) (h10 : 0 ≤ s.objs.getD i.toNat noObj 10 ∧ s.objs.getD i.toNat noObj 10 < 18446744073709551616) (h : Hp) : ACalls Tryz.prog G 37 [eState s, .int .i64 i] h fun r h' => r = .agg (cSh (rofF s i)) ∧ h' = h := by
  have hsl : (rstatsF s).length ≤ 10000000 := by rw [← rUp_all]; exact rUp_len hl
  obtain ⟨⟨o7, o7'⟩, ⟨o8, o8'⟩, o9, o9'⟩ := id hob
  have hsy := (cardE_words (s.objs.getD i.toNat noObj 0)).1
  have hsays : 0 ≤ (kindF s i).says ∧ (kindF s i).says < 18446744073709551616 := ⟨hsy.1, Int.lt_trans hsy.2 (by decide)⟩
  have hbb := becUp_bd (i := i) hz
  unfold bd2 at hbb
  refine ACalls.enter Tryz.func37 rfl Tryz.ntmps37 Tryz.results37 rfl ?_
  refine AW.seq ?_
  refine AW.region ?_
  refine AOps.q rfl rfl rfl (q_boxa rfl (rfl : _ = V.agg _)) ?_
  refine AOps.s rfl rfl rfl (a_alloc rfl Tryz.zeroValue64 rfl (fun id4 hid4 => ?_))
  refine AOps.nil ?_
  refine AW.cut (fun T h1 => ∃ id5 id6, T = put (put (put (put (put T0 1 (V.int .i64 i)) 2 (V.iptr (cState s))) 4 (V.ptr id4 0)) 5 (V.ptr id5 0)) 6 (V.ptr id6 0) ∧ (h.setBox id4 [.int .i64 0, .int .i64 0, .int .i64 0]).fresh id5 ∧ ((h.setBox id4 [.int .i64 0, .int .i64 0, .int .i64 0]).setBox id5 (cCard (kindF s i))).fresh id6 ∧ h1 = ((h.setBox id4 [.int .i64 0, .int .i64 0, .int .i64 0]).setBox id5 (cCard (kindF s i))).setBox id6 (cObj (s.objs.getD i.toNat noObj))) ?_ ?_
  · skip
    refine AW.draw2 [10, 11] [3, 4, 5, 6, 7] [(0, true), (1, true), (2, true), (3, true), (4, true), (5, true), (6, true), (7, true)] 4 mixed (by kernel_rfl) rfl (by kernel_rfl) ?_
    refine AOrd.q rfl rfl rfl rfl (q_load_iW rfl Tryz.isAgg29 Tryz.sizeOf29 rfl (by rfl)) ?_
    refine AOrd.q rfl rfl rfl rfl (q_mv rfl (rfl : _ = V.int _ _)) ?_
    refine AOrd.q rfl rfl rfl rfl (QOp.call rfl (by exact Tryz.call60) fun h' hl' => by exact refKind_calls s i hi h') ?_
    refine AOrd.p rfl rfl rfl (fun _ => q_fa_i rfl Tryz.underlying29 rfl (by exact Tryz.sizeOf22) (by decide) rfl (rfl : _ = List.drop 0 _)) ?_
    refine AOrd.p rfl rfl rfl (fun _ => q_load_i1 rfl Tryz.isAgg22 rfl rfl) ?_
    refine AOrd.p rfl rfl rfl (fun _ => q_mv rfl (rfl : _ = V.int _ _)) ?_
    refine AOrd.p rfl rfl rfl (fun _ => q_ia_s rfl Tryz.underlying22 Tryz.sizeOf49 rfl rfl hi.1 hi.2 (cObjs_elem' hi.1 hi.2)) ?_
    refine AOrd.p rfl rfl rfl (fun _ => q_load_iW rfl Tryz.isAgg49 Tryz.sizeOf49 rfl (by rfl)) ?_
    refine AOrd.nil ?_
    refine AAny.two 8 9 (by kernel_rfl) (aOp.new rfl rfl rfl (a_alloc rfl Tryz.zeroValue92 rfl (fun id5 hid5 => ⟨?_, HLe.setBox hid5.1⟩))) (aOp.new rfl rfl rfl (a_alloc rfl Tryz.zeroValue49 rfl (fun id6 hid6 => ⟨?_, HLe.setBox hid6.1⟩)))
    · skip
      refine AAny.one 9 (by kernel_rfl) (aOp.new rfl rfl rfl (a_alloc rfl Tryz.zeroValue49 rfl (fun id6 hid6 => ⟨?_, HLe.setBox hid6.1⟩)))
      refine AAny.one 10 (by kernel_rfl) (aOp.st rfl rfl rfl rfl (a_storeU (id := id5) (id2 := id6) rfl Tryz.sizeOf92 rfl hid6 rfl (rfl : _ = V.agg _) rfl rfl ?_))
      refine AAny.one 11 (by kernel_rfl) (aOp.st rfl rfl rfl rfl (a_storeWA' rfl Tryz.sizeOf49 rfl (rfl) (rfl : _ = V.agg _) rfl rfl ?_))
      refine AAny.fin (by kernel_rfl) ?_
      exact Wk.mk (TLe.put (d := 6) (VLe.refl _) (TLe.put (d := 5) (VLe.refl _) (TLe.put (d := 4) (VLe.refl _) (TLe.put (d := 2) (VLe.refl _) (TLe.put (d := 1) (VLe.refl _) (TLe.zero _)))))) (HLe.refl _) ⟨id5, id6, rfl, hid5, Hp.fresh_swap hid6, rfl⟩
    · skip
      refine AAny.one 8 (by kernel_rfl) (aOp.new rfl rfl rfl (a_alloc rfl Tryz.zeroValue92 rfl (fun id5 hid5 => ⟨?_, HLe.setBox hid5.1⟩)))
      refine AAny.one 10 (by kernel_rfl) (aOp.st rfl rfl rfl rfl (a_storeWA' rfl Tryz.sizeOf92 rfl (rfl) (rfl : _ = V.agg _) rfl rfl ?_))
      refine AAny.one 11 (by kernel_rfl) (aOp.st rfl rfl rfl rfl (a_storeU (id := id6) (id2 := id5) rfl Tryz.sizeOf49 rfl (Hp.fresh_swap hid5) rfl (rfl : _ = V.agg _) rfl rfl ?_))
      refine AAny.fin (by kernel_rfl) ?_
      exact Wk.mk (TLe.put (d := 6) (VLe.refl _) (TLe.put (d := 5) (VLe.refl _) (TLe.put (d := 4) (VLe.refl _) (TLe.put (d := 2) (VLe.refl _) (TLe.put (d := 1) (VLe.refl _) (TLe.zero _)))))) (HLe.refl _) ⟨id5, id6, rfl, (fresh_pair (d := []) hid6 hid5).1, (fresh_pair hid6 hid5).2, Hp.setBox_comm _ _ _ (fresh_ne hid5)⟩
  · rintro T h1 ⟨id5, id6, rfl, hid5, hid6, rfl⟩
    refine AW.done 6 rfl hid6 ?_
    refine AW.done 5 rfl hid5 ?_
    refine AW.seq ?_
    refine AW.draw [] [] [(0, true), (1, true), (2, true), (3, true), (4, true), (5, true), (6, true), (7, true), (8, true), (9, true)] mixed (by kernel_rfl) rfl (by kernel_rfl) ?_
    refine AOrd.q rfl rfl rfl rfl (q_fa_i rfl Tryz.underlying92 rfl (by exact Tryz.sizeOf3) (by decide) rfl (rfl : _ = List.drop 9 _)) ?_
    refine AOrd.q rfl rfl rfl rfl (q_load_i1 rfl Tryz.isAgg3 rfl rfl) ?_
    refine AOrd.q rfl rfl rfl rfl (q_fa_i rfl Tryz.underlying92 rfl (by exact Tryz.sizeOf3) (by decide) rfl (rfl : _ = List.drop 10 _)) ?_
    refine AOrd.q rfl rfl rfl rfl (q_load_i1 rfl Tryz.isAgg3 rfl rfl) ?_
    refine AOrd.q rfl rfl rfl rfl (q_fa_i rfl Tryz.underlying92 rfl (by exact Tryz.sizeOf3) (by decide) rfl (rfl : _ = List.drop 11 _)) ?_
    refine AOrd.q rfl rfl rfl rfl (q_load_i1 rfl Tryz.isAgg3 rfl rfl) ?_
    refine AOrd.q rfl rfl rfl rfl (q_convU rfl Tryz.underlying3 Tryz.underlying94 rfl hsays) ?_
    refine AOrd.q rfl rfl rfl rfl (q_as rfl (rfl : _ = V.int _ _)) ?_
    refine AOrd.q rfl rfl rfl rfl (q_as rfl (rfl : _ = V.int _ _)) ?_
    refine AOrd.q rfl rfl rfl rfl (q_as rfl (rfl : _ = V.int .u64 _)) ?_
    refine AOrd.nil ?_
    refine AW.seq ?_
    refine AW.seq ?_
    refine AW.region ?_
    refine AOps.q rfl rfl rfl (q_load_iW rfl Tryz.isAgg29 Tryz.sizeOf29 rfl (by rfl)) ?_
    refine AOps.q rfl rfl rfl (QOp.call rfl (by exact Tryz.call61) fun h' hl' => by exact refStatics_calls s hz hl h') ?_
    refine AOps.q rfl rfl rfl (q_len rfl Tryz.underlying95 rfl) ?_
    refine AOps.q rfl rfl rfl (q_mv rfl (rfl : _ = V.int _ _)) ?_
    refine AOps.nil ?_
    refine AW.block ?_
    refine AW.loop (fun n T hh => ∃ (k : Nat) , k ≤ (rstatsF s).length ∧ n = (rstatsF s).length - k ∧ T = put (put (put (put (put (put (put (put (put (put (put (T0) 37 (V.int .i64 (k : Nat))) 36 (V.int .i64 (rstatsF s).length)) 35 (V.sl .imm 6 (rstatsF s).length (cRStats (rstatsF s)))) 9 (V.int .u64 (kindF s i).says)) 8 (V.int .i64 (becUp s i k).2)) 7 (V.int .i64 (becUp s i k).1)) 6 (V.iptr (cObj (s.objs.getD i.toNat noObj)))) 5 (V.iptr (cCard (kindF s i)))) 4 (V.ptr id4 0)) 2 (V.iptr (cState s))) 1 (V.int .i64 i) ∧ hh = h.setBox id4 [V.int .i64 0, V.int .i64 0, V.int .i64 0]) ((rstatsF s).length) ?_ ?_
    · skip
      refine Wk.mk (TLe.put (d := 1) (VLe.refl _) (TLe.put (d := 2) (VLe.refl _) (TLe.put (d := 4) (VLe.refl _) (TLe.put (d := 5) (VLe.refl _) (TLe.put (d := 6) (VLe.refl _) (TLe.put (d := 7) (by exact VLe.of_eq (congrArg (V.int .i64) (by first | rfl | omega))) (TLe.put (d := 8) (by exact VLe.of_eq (congrArg (V.int .i64) (by first | rfl | omega))) (TLe.put (d := 9) (VLe.refl _) (TLe.put (d := 35) (VLe.refl _) (TLe.put (d := 36) (VLe.refl _) (TLe.put (d := 37) (by exact VLe.of_eq (congrArg (V.int .i64) (by first | rfl | omega))) (TLe.zero _)))))))))))) (HLe.refl _) ⟨0, Nat.zero_le _, rfl, rfl, rfl⟩
    · skip
      rintro n T h' ⟨k, hk, rfl, rfl, rfl⟩
      refine AW.seq ?_
      refine AW.region ?_
      refine AOps.q rfl rfl rfl (q_lt rfl rfl rfl) ?_
      refine AOps.nil ?_
      refine AW.seq ?_
      refine AW.cond rfl (fun c0 => ?_) (fun c0 => ?_)
      · have hltk : k < (rstatsF s).length := by have := of_decide_eq_true c0; omega
        obtain ⟨hxi, hsub, ⟨x1, x2, x3, x4⟩, hwd⟩ := rstat_ok hz _ (getD_mem' (z := noRS) hltk)
        refine AW.skip ?_
        refine AW.seq ?_
        refine AW.block ?_
        refine AW.seq ?_
        refine AW.region ?_
        refine AOps.q rfl rfl rfl (q_ia_s rfl Tryz.underlying95 Tryz.sizeOf101 rfl rfl (by omega) (by omega) (rstat_elem (z := noRS) hltk)) ?_
        refine AOps.q rfl rfl rfl (q_load_iW rfl Tryz.isAgg101 Tryz.sizeOf101 rfl (by rfl)) ?_
        refine AOps.s rfl rfl rfl (a_alloc rfl Tryz.zeroValue101 rfl (fun id11 hid11 => ?_))
        refine AOps.s0 rfl rfl (a_storeWA rfl Tryz.sizeOf101 rfl rfl (rfl : _ = V.agg _) rfl rfl ?_)
        refine AOps.done 11 rfl hid11 ?_
        refine AOps.nil ?_
        refine AW.seq ?_
        refine AW.region ?_
        refine AOps.q rfl rfl rfl (q_fa_i rfl Tryz.underlying101 rfl (by exact Tryz.sizeOf99) (by decide) rfl (rfl : _ = List.drop 1 _)) ?_
        refine AOps.q rfl rfl rfl (q_fa_i rfl Tryz.underlying99 rfl (by exact Tryz.sizeOf97) (by decide) rfl (rfl : _ = List.drop 4 _)) ?_
        refine AOps.q rfl rfl rfl (q_load_i1 rfl Tryz.isAgg97 rfl rfl) ?_
        refine AOps.q rfl rfl rfl (q_ia_s rfl Tryz.underlying97 Tryz.sizeOf99 rfl rfl (by decide) (by omega) (sub_e0 hsub)) ?_
        refine AOps.q rfl rfl rfl (q_load_iW rfl Tryz.isAgg99 Tryz.sizeOf99 rfl (by rfl)) ?_
        refine AOps.s rfl rfl rfl (a_alloc rfl Tryz.zeroValue99 rfl (fun id12 hid12 => ?_))
        refine AOps.s0 rfl rfl (a_storeWA rfl Tryz.sizeOf99 rfl rfl (rfl : _ = V.agg _) rfl rfl ?_)
        refine AOps.done 12 rfl hid12 ?_
        refine AOps.nil ?_
        refine AW.seq ?_
        refine AW.region ?_
        refine AOps.q rfl rfl rfl (q_fa_i rfl Tryz.underlying99 rfl (by exact Tryz.sizeOf3) (by decide) rfl (rfl : _ = List.drop 0 _)) ?_
        refine AOps.q rfl rfl rfl (q_load_i1 rfl Tryz.isAgg3 rfl rfl) ?_
        refine AOps.q rfl rfl rfl (q_eq rfl rfl rfl) ?_
        refine AOps.q rfl rfl rfl (q_mv rfl (rfl : _ = V.bool _)) ?_
        refine AOps.g (wanted_t rfl rfl) rfl rfl (fun hc => TLe.refl _) (fun hc => q_load_iW rfl Tryz.isAgg29 Tryz.sizeOf29 rfl (by rfl)) ?_
        refine AOps.g (wanted_t rfl rfl) rfl rfl (fun hc => TLe.refl _) (fun hc => q_load_iW rfl Tryz.isAgg101 Tryz.sizeOf101 rfl (by rfl)) ?_
        refine AOps.g (wanted_t rfl rfl) rfl rfl (fun hc => TLe.refl _) (fun hc => q_mv rfl (rfl : _ = V.int _ _)) ?_
        refine AOps.g (wanted_t rfl rfl) rfl rfl (fun hc => TLe.put (d := 52) (VLe.opt hc) (TLe.put (d := 51) (VLe.opt hc) (TLe.put (d := 50) (VLe.opt hc) (TLe.refl _)))) (fun hc => QOp.call rfl (by exact Tryz.call62) fun h' hl' => by exact within_calls s _ i hi hxi h') ?_
        refine AOps.q rfl rfl rfl (q_pickg rfl rfl (fun hp => by first | exact VLe.opt hp | exact VLe.opt (by rw [hp]; rfl) | exact VLe.opt (by simp_all)) (fun hp => by exact VLe.refl _)) ?_
        refine AOps.nil ?_
        refine AW.cond rfl (fun c1 => ?_) (fun c1 => ?_)
        · have he : becUp s i (k + 1) = ((e0 ((rstatsF s).getD k noRS)).n, (e0 ((rstatsF s).getD k noRS)).m) := by rw [becUp_succ hltk, becStep, c1]; rfl
          refine AW.draw [] [] [(0, true), (1, true), (2, true), (3, true), (4, true), (5, true)] mixed (by kernel_rfl) rfl (by kernel_rfl) ?_
          refine AOrd.q rfl rfl rfl rfl (q_fa_i rfl Tryz.underlying99 rfl (by exact Tryz.sizeOf3) (by decide) rfl (rfl : _ = List.drop 1 _)) ?_
          refine AOrd.q rfl rfl rfl rfl (q_load_i1 rfl Tryz.isAgg3 rfl rfl) ?_
          refine AOrd.q rfl rfl rfl rfl (q_fa_i rfl Tryz.underlying99 rfl (by exact Tryz.sizeOf3) (by decide) rfl (rfl : _ = List.drop 2 _)) ?_
          refine AOrd.q rfl rfl rfl rfl (q_load_i1 rfl Tryz.isAgg3 rfl rfl) ?_
          refine AOrd.q rfl rfl rfl rfl (q_as rfl (rfl : _ = V.int _ _)) ?_
          refine AOrd.q rfl rfl rfl rfl (q_as rfl (rfl : _ = V.int _ _)) ?_
          refine AOrd.nil ?_
          refine AW.region ?_
          refine AOps.q rfl rfl rfl (q_add' rfl rfl rfl (by omega)) ?_
          refine AOps.q rfl rfl rfl (q_mv rfl (rfl : _ = V.int _ _)) ?_
          refine AOps.nil ?_
          refine Wk.mk (TLe.put (d := 1) (VLe.refl _) (TLe.put (d := 2) (VLe.refl _) (TLe.put (d := 4) (VLe.refl _) (TLe.put (d := 5) (VLe.refl _) (TLe.put (d := 6) (VLe.refl _) (TLe.put (d := 7) (VLe.of_eq (congrArg (V.int .i64) (by rw [he]))) (TLe.put (d := 8) (VLe.of_eq (congrArg (V.int .i64) (by rw [he]))) (TLe.put (d := 9) (VLe.refl _) (TLe.put (d := 35) (VLe.refl _) (TLe.put (d := 36) (VLe.refl _) (TLe.put (d := 37) (by exact VLe.of_eq (congrArg (V.int .i64) (by first | rfl | omega))) (TLe.zero _)))))))))))) (HLe.refl _) ⟨_, ?_, k + 1, ?_, rfl, rfl, rfl⟩
          · omega
          · omega
        · have he : becUp s i (k + 1) = becUp s i k := by rw [becUp_succ hltk, becStep, c1]; rfl
          refine AW.skip ?_
          refine AW.region ?_
          refine AOps.q rfl rfl rfl (q_add' rfl rfl rfl (by omega)) ?_
          refine AOps.q rfl rfl rfl (q_mv rfl (rfl : _ = V.int _ _)) ?_
          refine AOps.nil ?_
          refine Wk.mk (TLe.put (d := 1) (VLe.refl _) (TLe.put (d := 2) (VLe.refl _) (TLe.put (d := 4) (VLe.refl _) (TLe.put (d := 5) (VLe.refl _) (TLe.put (d := 6) (VLe.refl _) (TLe.put (d := 7) (VLe.of_eq (congrArg (V.int .i64) (by rw [he]))) (TLe.put (d := 8) (VLe.of_eq (congrArg (V.int .i64) (by rw [he]))) (TLe.put (d := 9) (VLe.refl _) (TLe.put (d := 35) (VLe.refl _) (TLe.put (d := 36) (VLe.refl _) (TLe.put (d := 37) (by exact VLe.of_eq (congrArg (V.int .i64) (by first | rfl | omega))) (TLe.zero _)))))))))))) (HLe.refl _) ⟨_, ?_, k + 1, ?_, rfl, rfl, rfl⟩
          · omega
          · omega
      · obtain rfl : k = (rstatsF s).length := by have := of_decide_eq_false c0; omega
        rw [becUp_all]
        refine AW.exit ?_
        refine AW.seq ?_
        refine AW.draw [] [] [(0, true), (1, true), (2, true), (3, true), (4, true), (5, true), (6, true), (7, true), (8, true), (9, true)] mixed (by kernel_rfl) rfl (by kernel_rfl) ?_
        refine AOrd.q rfl rfl rfl rfl (q_mv rfl (rfl : _ = V.int _ _)) ?_
        refine AOrd.q rfl rfl rfl rfl (q_ia_ai rfl Tryz.underlying49 Tryz.sizeOf3 rfl rfl (by decide) (by decide) rfl) ?_
        refine AOrd.q rfl rfl rfl rfl (q_load_i1 rfl Tryz.isAgg3 rfl rfl) ?_
        refine AOrd.q rfl rfl rfl rfl (q_add' rfl rfl rfl (by omega)) ?_
        refine AOrd.q rfl rfl rfl rfl (q_mv rfl (rfl : _ = V.int _ _)) ?_
        refine AOrd.q rfl rfl rfl rfl (q_ia_ai rfl Tryz.underlying49 Tryz.sizeOf3 rfl rfl (by decide) (by decide) rfl) ?_
        refine AOrd.q rfl rfl rfl rfl (q_load_i1 rfl Tryz.isAgg3 rfl rfl) ?_
        refine AOrd.q rfl rfl rfl rfl (q_add' rfl rfl rfl (by omega)) ?_
        refine AOrd.q rfl rfl rfl rfl (q_as rfl (rfl : _ = V.int _ _)) ?_
        refine AOrd.q rfl rfl rfl rfl (q_as rfl (rfl : _ = V.int _ _)) ?_
        refine AOrd.nil ?_
        refine AW.seq ?_
        refine AW.seq ?_
        refine AW.region ?_
        refine AOps.q rfl rfl rfl (q_load_iW rfl Tryz.isAgg29 Tryz.sizeOf29 rfl (by rfl)) ?_
        refine AOps.q rfl rfl rfl (QOp.call rfl (by exact Tryz.call61) fun h' hl' => by exact refStatics_calls s hz hl h') ?_
        refine AOps.q rfl rfl rfl (q_len rfl Tryz.underlying95 rfl) ?_
        refine AOps.q rfl rfl rfl (q_mv rfl (rfl : _ = V.int _ _)) ?_
        refine AOps.nil ?_
        refine AW.block ?_
        refine AW.loop (fun n T hh => ∃ (k : Nat) , k ≤ (rstatsF s).length ∧ n = (rstatsF s).length - k ∧ T = put (put (put (put (put (put (put (put (put (put (put (T0) 71 (V.int .i64 (k : Nat))) 70 (V.int .i64 (rstatsF s).length)) 69 (V.sl .imm 6 (rstatsF s).length (cRStats (rstatsF s)))) 9 (V.int .u64 (kindF s i).says)) 8 (V.int .i64 (pumUp s i k).2)) 7 (V.int .i64 (pumUp s i k).1)) 6 (V.iptr (cObj (s.objs.getD i.toNat noObj)))) 5 (V.iptr (cCard (kindF s i)))) 4 (V.ptr id4 0)) 2 (V.iptr (cState s))) 1 (V.int .i64 i) ∧ hh = h.setBox id4 [V.int .i64 0, V.int .i64 0, V.int .i64 0]) ((rstatsF s).length) ?_ ?_
        · skip
          refine Wk.mk (TLe.put (d := 1) (VLe.refl _) (TLe.put (d := 2) (VLe.refl _) (TLe.put (d := 4) (VLe.refl _) (TLe.put (d := 5) (VLe.refl _) (TLe.put (d := 6) (VLe.refl _) (TLe.put (d := 7) (by exact VLe.of_eq (congrArg (V.int .i64) (by first | rfl | omega))) (TLe.put (d := 8) (by exact VLe.of_eq (congrArg (V.int .i64) (by first | rfl | omega))) (TLe.put (d := 9) (VLe.refl _) (TLe.put (d := 69) (VLe.refl _) (TLe.put (d := 70) (VLe.refl _) (TLe.put (d := 71) (by exact VLe.of_eq (congrArg (V.int .i64) (by first | rfl | omega))) (TLe.zero _)))))))))))) (HLe.refl _) ⟨0, Nat.zero_le _, rfl, rfl, rfl⟩
        · skip
          rintro n T h' ⟨k, hk, rfl, rfl, rfl⟩
          refine AW.seq ?_
          refine AW.region ?_
          refine AOps.q rfl rfl rfl (q_lt rfl rfl rfl) ?_
          refine AOps.nil ?_
          refine AW.seq ?_
          refine AW.cond rfl (fun c2 => ?_) (fun c2 => ?_)
          · have hltk : k < (rstatsF s).length := by have := of_decide_eq_true c2; omega
            obtain ⟨hxi, hsub, ⟨x1, x2, x3, x4⟩, hwd⟩ := rstat_ok hz _ (getD_mem' (z := noRS) hltk)
            have hpb := pumUp_bd hz hob k (by omega)
            unfold bd2 at hpb
            refine AW.skip ?_
            refine AW.seq ?_
            refine AW.block ?_
            refine AW.seq ?_
            refine AW.region ?_
            refine AOps.q rfl rfl rfl (q_ia_s rfl Tryz.underlying95 Tryz.sizeOf101 rfl rfl (by omega) (by omega) (rstat_elem (z := noRS) hltk)) ?_
            refine AOps.q rfl rfl rfl (q_load_iW rfl Tryz.isAgg101 Tryz.sizeOf101 rfl (by rfl)) ?_
            refine AOps.s rfl rfl rfl (a_alloc rfl Tryz.zeroValue101 rfl (fun id14 hid14 => ?_))
            refine AOps.s0 rfl rfl (a_storeWA rfl Tryz.sizeOf101 rfl rfl (rfl : _ = V.agg _) rfl rfl ?_)
            refine AOps.done 14 rfl hid14 ?_
            refine AOps.nil ?_
            refine AW.seq ?_
            refine AW.region ?_
            refine AOps.q rfl rfl rfl (q_fa_i rfl Tryz.underlying101 rfl (by exact Tryz.sizeOf99) (by decide) rfl (rfl : _ = List.drop 1 _)) ?_
            refine AOps.q rfl rfl rfl (q_fa_i rfl Tryz.underlying99 rfl (by exact Tryz.sizeOf97) (by decide) rfl (rfl : _ = List.drop 4 _)) ?_
            refine AOps.q rfl rfl rfl (q_load_i1 rfl Tryz.isAgg97 rfl rfl) ?_
            refine AOps.q rfl rfl rfl (q_ia_s rfl Tryz.underlying97 Tryz.sizeOf99 rfl rfl (by decide) (by omega) (sub_e0 hsub)) ?_
            refine AOps.q rfl rfl rfl (q_load_iW rfl Tryz.isAgg99 Tryz.sizeOf99 rfl (by rfl)) ?_
            refine AOps.s rfl rfl rfl (a_alloc rfl Tryz.zeroValue99 rfl (fun id15 hid15 => ?_))
            refine AOps.s0 rfl rfl (a_storeWA rfl Tryz.sizeOf99 rfl rfl (rfl : _ = V.agg _) rfl rfl ?_)
            refine AOps.done 15 rfl hid15 ?_
            refine AOps.nil ?_
            refine AW.seq ?_
            refine AW.region ?_
            refine AOps.q rfl rfl rfl (q_fa_i rfl Tryz.underlying99 rfl (by exact Tryz.sizeOf3) (by decide) rfl (rfl : _ = List.drop 0 _)) ?_
            refine AOps.q rfl rfl rfl (q_load_i1 rfl Tryz.isAgg3 rfl rfl) ?_
            refine AOps.q rfl rfl rfl (q_eq rfl rfl rfl) ?_
            refine AOps.q rfl rfl rfl (q_mv rfl (rfl : _ = V.bool _)) ?_
            refine AOps.g (wanted_t rfl rfl) rfl rfl (fun hc => TLe.refl _) (fun hc => q_load_iW rfl Tryz.isAgg29 Tryz.sizeOf29 rfl (by rfl)) ?_
            refine AOps.g (wanted_t rfl rfl) rfl rfl (fun hc => TLe.refl _) (fun hc => q_load_iW rfl Tryz.isAgg101 Tryz.sizeOf101 rfl (by rfl)) ?_
            refine AOps.g (wanted_t rfl rfl) rfl rfl (fun hc => TLe.refl _) (fun hc => q_mv rfl (rfl : _ = V.int _ _)) ?_
            refine AOps.g (wanted_t rfl rfl) rfl rfl (fun hc => TLe.put (d := 86) (VLe.opt hc) (TLe.put (d := 85) (VLe.opt hc) (TLe.put (d := 84) (VLe.opt hc) (TLe.refl _)))) (fun hc => QOp.call rfl (by exact Tryz.call62) fun h' hl' => by exact within_calls s _ i hi hxi h') ?_
            refine AOps.q rfl rfl rfl (q_pickg rfl rfl (fun hp => by first | exact VLe.opt hp | exact VLe.opt (by rw [hp]; rfl) | exact VLe.opt (by simp_all)) (fun hp => by exact VLe.refl _)) ?_
            refine AOps.nil ?_
            refine AW.cond rfl (fun c3 => ?_) (fun c3 => ?_)
            · have he : pumUp s i (k + 1) = ((pumUp s i k).1 + (e0 ((rstatsF s).getD k noRS)).n, (pumUp s i k).2 + (e0 ((rstatsF s).getD k noRS)).m) := by rw [pumUp_succ hltk, pumStep, c3]; rfl
              refine AW.draw [] [] [(0, true), (1, true), (2, true), (3, true), (4, true), (5, true), (6, true), (7, true), (8, true), (9, true)] mixed (by kernel_rfl) rfl (by kernel_rfl) ?_
              refine AOrd.q rfl rfl rfl rfl (q_mv rfl (rfl : _ = V.int _ _)) ?_
              refine AOrd.q rfl rfl rfl rfl (q_fa_i rfl Tryz.underlying99 rfl (by exact Tryz.sizeOf3) (by decide) rfl (rfl : _ = List.drop 1 _)) ?_
              refine AOrd.q rfl rfl rfl rfl (q_load_i1 rfl Tryz.isAgg3 rfl rfl) ?_
              refine AOrd.q rfl rfl rfl rfl (q_add' rfl rfl rfl (by omega)) ?_
              refine AOrd.q rfl rfl rfl rfl (q_mv rfl (rfl : _ = V.int _ _)) ?_
              refine AOrd.q rfl rfl rfl rfl (q_fa_i rfl Tryz.underlying99 rfl (by exact Tryz.sizeOf3) (by decide) rfl (rfl : _ = List.drop 2 _)) ?_
              refine AOrd.q rfl rfl rfl rfl (q_load_i1 rfl Tryz.isAgg3 rfl rfl) ?_
              refine AOrd.q rfl rfl rfl rfl (q_add' rfl rfl rfl (by omega)) ?_
              refine AOrd.q rfl rfl rfl rfl (q_as rfl (rfl : _ = V.int _ _)) ?_
              refine AOrd.q rfl rfl rfl rfl (q_as rfl (rfl : _ = V.int _ _)) ?_
              refine AOrd.nil ?_
              refine AW.region ?_
              refine AOps.q rfl rfl rfl (q_add' rfl rfl rfl (by omega)) ?_
              refine AOps.q rfl rfl rfl (q_mv rfl (rfl : _ = V.int _ _)) ?_
              refine AOps.nil ?_
              refine Wk.mk (TLe.put (d := 1) (VLe.refl _) (TLe.put (d := 2) (VLe.refl _) (TLe.put (d := 4) (VLe.refl _) (TLe.put (d := 5) (VLe.refl _) (TLe.put (d := 6) (VLe.refl _) (TLe.put (d := 7) (VLe.of_eq (congrArg (V.int .i64) (by rw [he]))) (TLe.put (d := 8) (VLe.of_eq (congrArg (V.int .i64) (by rw [he]))) (TLe.put (d := 9) (VLe.refl _) (TLe.put (d := 69) (VLe.refl _) (TLe.put (d := 70) (VLe.refl _) (TLe.put (d := 71) (by exact VLe.of_eq (congrArg (V.int .i64) (by first | rfl | omega))) (TLe.zero _)))))))))))) (HLe.refl _) ⟨_, ?_, k + 1, ?_, rfl, rfl, rfl⟩
              · omega
              · omega
            · have he : pumUp s i (k + 1) = pumUp s i k := by rw [pumUp_succ hltk, pumStep, c3]; rfl
              refine AW.skip ?_
              refine AW.region ?_
              refine AOps.q rfl rfl rfl (q_add' rfl rfl rfl (by omega)) ?_
              refine AOps.q rfl rfl rfl (q_mv rfl (rfl : _ = V.int _ _)) ?_
              refine AOps.nil ?_
              refine Wk.mk (TLe.put (d := 1) (VLe.refl _) (TLe.put (d := 2) (VLe.refl _) (TLe.put (d := 4) (VLe.refl _) (TLe.put (d := 5) (VLe.refl _) (TLe.put (d := 6) (VLe.refl _) (TLe.put (d := 7) (VLe.of_eq (congrArg (V.int .i64) (by rw [he]))) (TLe.put (d := 8) (VLe.of_eq (congrArg (V.int .i64) (by rw [he]))) (TLe.put (d := 9) (VLe.refl _) (TLe.put (d := 69) (VLe.refl _) (TLe.put (d := 70) (VLe.refl _) (TLe.put (d := 71) (by exact VLe.of_eq (congrArg (V.int .i64) (by first | rfl | omega))) (TLe.zero _)))))))))))) (HLe.refl _) ⟨_, ?_, k + 1, ?_, rfl, rfl, rfl⟩
              · omega
              · omega
          · obtain rfl : k = (rstatsF s).length := by have := of_decide_eq_false c2; omega
            have hpb := pumUp_bd hz hob _ (Nat.le_refl _)
            rw [pumUp_all] at hpb ⊢
            unfold bd2 at hpb
            refine AW.exit ?_
            refine AW.seq ?_
            refine AW.draw [] [] [(0, true), (1, true), (2, true), (3, true), (4, true), (5, true), (6, true), (7, true), (8, true), (9, true)] mixed (by kernel_rfl) rfl (by kernel_rfl) ?_
            refine AOrd.q rfl rfl rfl rfl (q_mv rfl (rfl : _ = V.int _ _)) ?_
            refine AOrd.q rfl rfl rfl rfl (q_ia_ai rfl Tryz.underlying49 Tryz.sizeOf3 rfl rfl (by decide) (by decide) rfl) ?_
            refine AOrd.q rfl rfl rfl rfl (q_load_i1 rfl Tryz.isAgg3 rfl rfl) ?_
            refine AOrd.q rfl rfl rfl rfl (q_add' rfl rfl rfl (by omega)) ?_
            refine AOrd.q rfl rfl rfl rfl (q_mv rfl (rfl : _ = V.int _ _)) ?_
            refine AOrd.q rfl rfl rfl rfl (q_ia_ai rfl Tryz.underlying49 Tryz.sizeOf3 rfl rfl (by decide) (by decide) rfl) ?_
            refine AOrd.q rfl rfl rfl rfl (q_load_i1 rfl Tryz.isAgg3 rfl rfl) ?_
            refine AOrd.q rfl rfl rfl rfl (q_add' rfl rfl rfl (by omega)) ?_
            refine AOrd.q rfl rfl rfl rfl (q_as rfl (rfl : _ = V.int _ _)) ?_
            refine AOrd.q rfl rfl rfl rfl (q_as rfl (rfl : _ = V.int _ _)) ?_
            refine AOrd.nil ?_
            refine AW.seq ?_
            refine AW.seq ?_
            refine AW.region ?_
            refine AOps.q rfl rfl rfl (q_load_iW rfl Tryz.isAgg29 Tryz.sizeOf29 rfl (by rfl)) ?_
            refine AOps.q rfl rfl rfl (QOp.call rfl (by exact Tryz.call61) fun h' hl' => by exact refStatics_calls s hz hl h') ?_
            refine AOps.q rfl rfl rfl (q_len rfl Tryz.underlying95 rfl) ?_
            refine AOps.q rfl rfl rfl (q_mv rfl (rfl : _ = V.int _ _)) ?_
            refine AOps.nil ?_
            refine AW.block ?_
            refine AW.loop (fun n T hh => ∃ (k : Nat) , k ≤ (rstatsF s).length ∧ n = (rstatsF s).length - k ∧ T = put (put (put (put (put (put (put (put (put (put (put (T0) 109 (V.int .i64 (k : Nat))) 108 (V.int .i64 (rstatsF s).length)) 107 (V.sl .imm 6 (rstatsF s).length (cRStats (rstatsF s)))) 9 (V.int .u64 (worUp s i k))) 8 (V.int .i64 ((pumF s i).2 + s.objs.getD i.toNat noObj 9))) 7 (V.int .i64 ((pumF s i).1 + s.objs.getD i.toNat noObj 8))) 6 (V.iptr (cObj (s.objs.getD i.toNat noObj)))) 5 (V.iptr (cCard (kindF s i)))) 4 (V.ptr id4 0)) 2 (V.iptr (cState s))) 1 (V.int .i64 i) ∧ hh = h.setBox id4 [V.int .i64 0, V.int .i64 0, V.int .i64 0]) ((rstatsF s).length) ?_ ?_
            · skip
              refine Wk.mk (TLe.put (d := 1) (VLe.refl _) (TLe.put (d := 2) (VLe.refl _) (TLe.put (d := 4) (VLe.refl _) (TLe.put (d := 5) (VLe.refl _) (TLe.put (d := 6) (VLe.refl _) (TLe.put (d := 7) (VLe.refl _) (TLe.put (d := 8) (VLe.refl _) (TLe.put (d := 9) (VLe.refl _) (TLe.put (d := 107) (VLe.refl _) (TLe.put (d := 108) (VLe.refl _) (TLe.put (d := 109) (by exact VLe.of_eq (congrArg (V.int .i64) (by first | rfl | omega))) (TLe.zero _)))))))))))) (HLe.refl _) ⟨0, Nat.zero_le _, rfl, rfl, rfl⟩
            · skip
              rintro n T h' ⟨k, hk, rfl, rfl, rfl⟩
              refine AW.seq ?_
              refine AW.region ?_
              refine AOps.q rfl rfl rfl (q_lt rfl rfl rfl) ?_
              refine AOps.nil ?_
              refine AW.seq ?_
              refine AW.cond rfl (fun c4 => ?_) (fun c4 => ?_)
              · have hltk : k < (rstatsF s).length := by have := of_decide_eq_true c4; omega
                obtain ⟨hxi, hsub, ⟨x1, x2, x3, x4⟩, hwd⟩ := rstat_ok hz _ (getD_mem' (z := noRS) hltk)
                have hwi := worUp_in (s := s) (i := i) k
                refine AW.skip ?_
                refine AW.seq ?_
                refine AW.block ?_
                refine AW.seq ?_
                refine AW.region ?_
                refine AOps.q rfl rfl rfl (q_ia_s rfl Tryz.underlying95 Tryz.sizeOf101 rfl rfl (by omega) (by omega) (rstat_elem (z := noRS) hltk)) ?_
                refine AOps.q rfl rfl rfl (q_load_iW rfl Tryz.isAgg101 Tryz.sizeOf101 rfl (by rfl)) ?_
                refine AOps.s rfl rfl rfl (a_alloc rfl Tryz.zeroValue101 rfl (fun id17 hid17 => ?_))
                refine AOps.s0 rfl rfl (a_storeWA rfl Tryz.sizeOf101 rfl rfl (rfl : _ = V.agg _) rfl rfl ?_)
                refine AOps.done 17 rfl hid17 ?_
                refine AOps.nil ?_
                refine AW.seq ?_
                refine AW.region ?_
                refine AOps.q rfl rfl rfl (q_fa_i rfl Tryz.underlying101 rfl (by exact Tryz.sizeOf99) (by decide) rfl (rfl : _ = List.drop 1 _)) ?_
                refine AOps.q rfl rfl rfl (q_fa_i rfl Tryz.underlying99 rfl (by exact Tryz.sizeOf97) (by decide) rfl (rfl : _ = List.drop 4 _)) ?_
                refine AOps.q rfl rfl rfl (q_load_i1 rfl Tryz.isAgg97 rfl rfl) ?_
                refine AOps.q rfl rfl rfl (q_ia_s rfl Tryz.underlying97 Tryz.sizeOf99 rfl rfl (by decide) (by omega) (sub_e0 hsub)) ?_
                refine AOps.q rfl rfl rfl (q_load_iW rfl Tryz.isAgg99 Tryz.sizeOf99 rfl (by rfl)) ?_
                refine AOps.s rfl rfl rfl (a_alloc rfl Tryz.zeroValue99 rfl (fun id18 hid18 => ?_))
                refine AOps.s0 rfl rfl (a_storeWA rfl Tryz.sizeOf99 rfl rfl (rfl : _ = V.agg _) rfl rfl ?_)
                refine AOps.done 18 rfl hid18 ?_
                refine AOps.nil ?_
                refine AW.seq ?_
                refine AW.region ?_
                refine AOps.q rfl rfl rfl (q_fa_i rfl Tryz.underlying99 rfl (by exact Tryz.sizeOf3) (by decide) rfl (rfl : _ = List.drop 0 _)) ?_
                refine AOps.q rfl rfl rfl (q_load_i1 rfl Tryz.isAgg3 rfl rfl) ?_
                refine AOps.q rfl rfl rfl (q_eq rfl rfl rfl) ?_
                refine AOps.q rfl rfl rfl (q_mv rfl (rfl : _ = V.bool _)) ?_
                refine AOps.g (wanted_f rfl rfl) rfl rfl (fun hc => TLe.refl _) (fun hc => q_fa_i rfl Tryz.underlying99 rfl (by exact Tryz.sizeOf3) (by decide) rfl (rfl : _ = List.drop 0 _)) ?_
                refine AOps.g (wanted_f rfl rfl) rfl rfl (fun hc => TLe.put (d := 122) (VLe.opt hc) (TLe.refl _)) (fun hc => q_load_i1 rfl Tryz.isAgg3 rfl rfl) ?_
                refine AOps.g (wanted_f rfl rfl) rfl rfl (fun hc => TLe.put (d := 123) (VLe.opt hc) (TLe.refl _)) (fun hc => q_eq rfl rfl rfl) ?_
                refine AOps.q rfl rfl rfl (q_pickg rfl rfl (fun hp => by exact VLe.refl _) (fun hp => by first | exact VLe.opt hp | exact VLe.opt (by rw [hp]; rfl) | exact VLe.opt (by simp_all))) ?_
                refine AOps.q rfl rfl rfl (q_mv rfl (rfl : _ = V.bool _)) ?_
                refine AOps.g (wanted_t rfl rfl) rfl rfl (fun hc => TLe.refl _) (fun hc => q_load_iW rfl Tryz.isAgg29 Tryz.sizeOf29 rfl (by rfl)) ?_
                refine AOps.g (wanted_t rfl rfl) rfl rfl (fun hc => TLe.refl _) (fun hc => q_load_iW rfl Tryz.isAgg101 Tryz.sizeOf101 rfl (by rfl)) ?_
                refine AOps.g (wanted_t rfl rfl) rfl rfl (fun hc => TLe.refl _) (fun hc => q_mv rfl (rfl : _ = V.int _ _)) ?_
                refine AOps.g (wanted_t rfl rfl) rfl rfl (fun hc => TLe.put (d := 129) (VLe.opt hc) (TLe.put (d := 128) (VLe.opt hc) (TLe.put (d := 127) (VLe.opt hc) (TLe.refl _)))) (fun hc => QOp.call rfl (by exact Tryz.call62) fun h' hl' => by exact within_calls s _ i hi hxi h') ?_
                refine AOps.q rfl rfl rfl (q_pickg rfl rfl (fun hp => by first | exact VLe.opt hp | exact VLe.opt (by rw [hp]; rfl) | exact VLe.opt (by simp_all)) (fun hp => by exact VLe.refl _)) ?_
                refine AOps.nil ?_
                refine AW.cond rfl (fun c5 => ?_) (fun c5 => ?_)
                · have hwn : 0 ≤ (e0 ((rstatsF s).getD k noRS)).n ∧ (e0 ((rstatsF s).getD k noRS)).n < 18446744073709551616 := by
                    have := hwd.2 (by have := wor_op c5; simpa using this)
                    omega
                  have he : worUp s i (k + 1) = turnedF (worUp s i k) (e0 ((rstatsF s).getD k noRS)).n ((e0 ((rstatsF s).getD k noRS)).op == 23) := by rw [worUp_succ hltk, worStep, c5]; rfl
                  refine AW.region ?_
                  refine AOps.q rfl rfl rfl (q_mv rfl (rfl : _ = V.int .u64 _)) ?_
                  refine AOps.q rfl rfl rfl (q_fa_i rfl Tryz.underlying99 rfl (by exact Tryz.sizeOf3) (by decide) rfl (rfl : _ = List.drop 1 _)) ?_
                  refine AOps.q rfl rfl rfl (q_load_i1 rfl Tryz.isAgg3 rfl rfl) ?_
                  refine AOps.q rfl rfl rfl (q_fa_i rfl Tryz.underlying99 rfl (by exact Tryz.sizeOf3) (by decide) rfl (rfl : _ = List.drop 0 _)) ?_
                  refine AOps.q rfl rfl rfl (q_load_i1 rfl Tryz.isAgg3 rfl rfl) ?_
                  refine AOps.q rfl rfl rfl (q_eq rfl rfl rfl) ?_
                  refine AOps.q rfl rfl rfl (QOp.call rfl (by exact Tryz.call63) fun h' hl' => by exact turned_calls _ _ _ hwi hwn h') ?_
                  refine AOps.q rfl rfl rfl (q_as rfl (rfl : _ = V.int .u64 _)) ?_
                  refine AOps.nil ?_
                  refine AW.region ?_
                  refine AOps.q rfl rfl rfl (q_add' rfl rfl rfl (by omega)) ?_
                  refine AOps.q rfl rfl rfl (q_mv rfl (rfl : _ = V.int _ _)) ?_
                  refine AOps.nil ?_
                  refine Wk.mk (TLe.put (d := 1) (VLe.refl _) (TLe.put (d := 2) (VLe.refl _) (TLe.put (d := 4) (VLe.refl _) (TLe.put (d := 5) (VLe.refl _) (TLe.put (d := 6) (VLe.refl _) (TLe.put (d := 7) (VLe.refl _) (TLe.put (d := 8) (VLe.refl _) (TLe.put (d := 9) (VLe.of_eq (congrArg (V.int .u64) (by rw [he]))) (TLe.put (d := 107) (VLe.refl _) (TLe.put (d := 108) (VLe.refl _) (TLe.put (d := 109) (by exact VLe.of_eq (congrArg (V.int .i64) (by first | rfl | omega))) (TLe.zero _)))))))))))) (HLe.refl _) ⟨_, ?_, k + 1, ?_, rfl, rfl, rfl⟩
                  · omega
                  · omega
                · have he : worUp s i (k + 1) = worUp s i k := by rw [worUp_succ hltk, worStep, c5]; rfl
                  refine AW.skip ?_
                  refine AW.region ?_
                  refine AOps.q rfl rfl rfl (q_add' rfl rfl rfl (by omega)) ?_
                  refine AOps.q rfl rfl rfl (q_mv rfl (rfl : _ = V.int _ _)) ?_
                  refine AOps.nil ?_
                  refine Wk.mk (TLe.put (d := 1) (VLe.refl _) (TLe.put (d := 2) (VLe.refl _) (TLe.put (d := 4) (VLe.refl _) (TLe.put (d := 5) (VLe.refl _) (TLe.put (d := 6) (VLe.refl _) (TLe.put (d := 7) (VLe.refl _) (TLe.put (d := 8) (VLe.refl _) (TLe.put (d := 9) (VLe.of_eq (congrArg (V.int .u64) (by rw [he]))) (TLe.put (d := 107) (VLe.refl _) (TLe.put (d := 108) (VLe.refl _) (TLe.put (d := 109) (by exact VLe.of_eq (congrArg (V.int .i64) (by first | rfl | omega))) (TLe.zero _)))))))))))) (HLe.refl _) ⟨_, ?_, k + 1, ?_, rfl, rfl, rfl⟩
                  · omega
                  · omega
              · obtain rfl : k = (rstatsF s).length := by have := of_decide_eq_false c4; omega
                have hwi := worUp_in (s := s) (i := i) (rstatsF s).length
                rw [worUp_all] at hwi ⊢
                refine AW.exit ?_
                refine AW.seq ?_
                refine AW.region ?_
                refine AOps.q rfl rfl rfl (q_mv rfl (rfl : _ = V.int .u64 _)) ?_
                refine AOps.q rfl rfl rfl (q_ia_ai rfl Tryz.underlying49 Tryz.sizeOf3 rfl rfl (by decide) (by decide) rfl) ?_
                refine AOps.q rfl rfl rfl (q_load_i1 rfl Tryz.isAgg3 rfl rfl) ?_
                refine AOps.q rfl rfl rfl (QOp.call rfl (by exact Tryz.call63) fun h' hl' => by exact turned_calls _ _ _ hwi h10 h') ?_
                refine AOps.q rfl rfl rfl (q_as rfl (rfl : _ = V.int .u64 _)) ?_
                refine AOps.nil ?_
                refine AW.seq ?_
                refine AW.region ?_
                refine AOps.q rfl rfl rfl (q_mv rfl (rfl : _ = V.int _ _)) ?_
                refine AOps.q rfl rfl rfl (q_mv rfl (rfl : _ = V.int _ _)) ?_
                refine AOps.q rfl rfl rfl (q_mv rfl (rfl : _ = V.int .u64 _)) ?_
                refine AOps.q rfl rfl rfl (q_conv rfl Tryz.underlying94 Tryz.underlying3 rfl) ?_
                refine AOps.q rfl rfl rfl (q_buildS rfl Tryz.zeroValue64 Tryz.underlying64 (pl64 Tryz.underlying64) rfl rfl) ?_
                refine AOps.s0 rfl rfl (a_storeWA rfl Tryz.sizeOf64 rfl rfl (rfl : _ = V.agg _) rfl rfl ?_)
                refine AOps.nil ?_
                refine AW.ret ?_
                exact retQ.mk' (Res.cellB Tryz.isAgg64 Tryz.sizeOf64 rfl (by exact Hp.box_setBox _ _ _) rfl) (VLe.refl _) (HLe.setBox hid4.1) ⟨rfl, rfl⟩

end Go.Proofs.YtnbmcbkokaoapaaGreatDoor
