/- Walks: the document's answer to whether a state is right. -/
import Derived.Test.YtijhmlkffkedeaaGreatDoorCs7
import Derived.Test.YtijhmlkffkedeaaGreatDoorCards
import Derived.Test.YtijhmlkffkedeaaGreatDoorTie
import Derived.WalkKit
import Derived.ProofKit
import Derived.OpenShut
import Derived.Deep.DeepHandedRow
import Derived.Lib.LaidTab
import Derived.Carry
import Derived.LaidSub
namespace Go.Proofs.YtijhmlkffkedeaaGreatDoor
open Go Go.AV Go.Proofs.Tryz
set_option maxRecDepth 100000
set_option maxHeartbeats 1000000
/-- Nothing stands in a list that isn't. -/
def Few (s : St) : Prop := ∀ z, 11 ≤ z → s.lists z = []
def refPl (p : Nat → Int) : Bool := (inB (p 0) (-1073741824) 1073741824 && inB (p 7) 0 1 && inB (p 8) 0 1) && (List.range 6).all fun k => inB (p (k + 1)) 0 1000
def refGame (g : Nat → Int) : Bool := inB (g 0) 0 1073741824 && inB (g 1) 0 1 && inB (g 2) 0 7 && inB (g 3) 0 1 && inB (g 4) 0 1 && inB (g 5) 0 4096 && inB (g 6) 0 3
def refRanges (s : St) : Bool := (s.objs.all fun o => refObject o s.objs.length) && (List.range 2).all (fun p => refPl (s.pl p)) && refGame s.game
theorem plRow_at1 {g : Nat → Int} {k : Nat} (h : k < 6) : ((plRow g).drop (((k : Int) + 1).toNat * 1))[0]? = some (.int .i64 (g (k + 1))) := by
  have := plRow_at (g := g) (k := k + 1) (by omega)
  have e : (((k + 1 : Nat) : Int)) = (k : Int) + 1 := by omega
  rwa [e] at this
theorem rr_obj {s : St} {i : Nat} (hi : i < s.objs.length) (h : refObject (s.objs.getD i noObj) s.objs.length = false) : refRanges s = false := by
  have : (s.objs.all fun o => refObject o s.objs.length) = false := by
    cases e : (s.objs.all fun o => refObject o s.objs.length) with
    | false => rfl
    | true => rw [objs_all.1 e i hi] at h; cases h
  simp only [refRanges, this, Bool.false_and]
theorem rr_pl {s : St} {p : Nat} (hp : p < 2) (h : refPl (s.pl p) = false) : refRanges s = false := by
  have : (List.range 2).all (fun p => refPl (s.pl p)) = false := all_bad hp h
  simp only [refRanges, this, Bool.and_false, Bool.false_and]
theorem rp_head {p : Nat → Int} (h : (inB (p 0) (-1073741824) 1073741824 = false ∨ inB (p 7) 0 1 = false) ∨ inB (p 8) 0 1 = false) : refPl p = false := by
  rcases h with (h | h) | h <;> simp [refPl, h]
theorem rp_field {p : Nat → Int} {k : Nat} (hk : k < 6) (h : inB (p (k + 1)) 0 1000 = false) : refPl p = false := by
  have : (List.range 6).all (fun k => inB (p (k + 1)) 0 1000) = false := all_bad hk h
  simp only [refPl, this, Bool.and_false]

theorem refRanges_calls (s : St) (hb : s.objs.length ≤ 1000000) (h : Hp) : ACalls prog G 63 [eState s] h fun r h' => r = .bool (refRanges s) ∧ h' = h := by
  refine ACalls.enter func63 rfl ntmps63 results63 rfl ?_
  refine .seq <|
    .region <|
    .bx rfl rfl <|
    .aB rfl rfl <|
    .nil <|
    .seq <|
    .seq <|
    .region <|
    .fi rfl f29_0 rfl <|
    .li rfl isAgg22 rfl rfl <|
    .ln rfl underlying22 rfl <|
    .mI rfl rfl <|
    .nil <|
    .block ?_
  refine AW.loop (fun n T hh => ∃ (i : Nat) , i ≤ s.objs.length ∧ n = s.objs.length - i ∧ T = put (put (put (put (T0) 12 (V.int .i64 (i : Nat))) 11 (V.int .i64 s.objs.length)) 10 (eObjs s.objs)) 1 (V.iptr (cState s)) ∧ hh = h ∧ ∀ j, j < i → refObject (s.objs.getD j noObj) s.objs.length = true) (s.objs.length) ?_ ?_
  · skip
    refine Wk.mk (TLe.put (d := 1) (VLe.refl _) (TLe.put (d := 10) (VLe.refl _) (TLe.put (d := 11) (VLe.refl _) (TLe.put (d := 12) (by exact VLe.of_eq (congrArg (V.int .i64) (by first | rfl | omega))) (TLe.zero _))))) (HLe.refl _) ⟨0, Nat.zero_le _, rfl, rfl, rfl, fun j hj => by omega⟩
  · skip
    rintro n T h' ⟨i, hi, rfl, rfl, rfl, hj⟩
    refine .seq <|
      .region <|
      .ql rfl rfl rfl <|
      .nil <|
      .seq ?_
    refine AW.cond rfl (fun c0 => ?_) (fun c0 => ?_)
    · have hlt : i < s.objs.length := by have := of_decide_eq_true c0; omega
      refine AW.skip ?_
      refine .seq <|
        .block <|
        .seq <|
        .region ?_
      refine .u rfl rfl rfl (q_ia_s rfl underlying22 sizeOf58 rfl rfl (by omega) (by omega) (cObjs_elem' (by omega) (by omega))) ?_
      refine .lw rfl isAgg58 sizeOf58 rfl rfl ?_
      refine AOps.s rfl rfl rfl (a_alloc rfl zeroValue58 rfl (fun id4 hid4 => ?_))
      refine .sw sizeOf58 rfl rfl rfl rfl ?_
      refine AOps.done 4 rfl hid4 ?_
      refine .nil <|
        .seq <|
        .region <|
        .lw rfl isAgg58 sizeOf58 rfl rfl <|
        .fi rfl f29_0 rfl <|
        .li rfl isAgg22 rfl rfl <|
        .ln rfl underlying22 rfl ?_
      refine .u rfl rfl rfl (QOp.call rfl call99 fun h' hl' => by exact refObject_calls _ _ h') ?_
      refine .nt rfl rfl <|
        .nil ?_
      refine AW.cond rfl (fun c1 => ?_) (fun c1 => ?_)
      · skip
        refine .seq <|
          .region <|
          .aB rfl rfl <|
          .nil ?_
        refine AW.ret ?_
        exact retQ.mk' (.one _) (VLe.of_eq (congrArg V.bool (by rw [rr_obj hlt (by simpa using c1)]))) (HLe.refl _) ⟨rfl, rfl⟩
      · skip
        refine AW.skip ?_
        refine .region <|
          .ad rfl rfl rfl (by omega) <|
          .mI rfl rfl <|
          .nil ?_
        refine Wk.mk (TLe.put (d := 1) (VLe.refl _) (TLe.put (d := 10) (VLe.refl _) (TLe.put (d := 11) (VLe.refl _) (TLe.put (d := 12) (by exact VLe.of_eq (congrArg (V.int .i64) (by first | rfl | omega))) (TLe.zero _))))) (HLe.refl _) ⟨_, ?_, i + 1, ?_, rfl, rfl, rfl, all_step (p := fun j => refObject (s.objs.getD j noObj) s.objs.length) hj (by simpa using c1)⟩
        · omega
        · omega
    · obtain rfl : i = s.objs.length := by have := of_decide_eq_false c0; omega
      refine AW.exit ?_
      refine .seq <|
        .seq <|
        .region <|
        .aI rfl rfl <|
        .nil <|
        .block ?_
      refine AW.loop (fun n T hh => ∃ (p : Nat) , p ≤ 2 ∧ n = 2 - p ∧ T = put (put (T0) 5 (V.int .i64 (p : Nat))) 1 (V.iptr (cState s)) ∧ hh = h' ∧ ∀ j, j < p → refPl (s.pl j) = true) (2) ?_ ?_
      · skip
        refine Wk.mk (TLe.put (d := 1) (VLe.refl _) (TLe.put (d := 5) (by exact VLe.of_eq (congrArg (V.int .i64) (by first | rfl | omega))) (TLe.zero _))) (HLe.refl _) ⟨0, Nat.zero_le _, rfl, rfl, rfl, fun j hj => by omega⟩
      · skip
        rintro n T h' ⟨p, hp, rfl, rfl, rfl, hp2⟩
        refine .seq <|
          .seq <|
          .region <|
          .mI rfl rfl <|
          .ql rfl rfl rfl <|
          .nil ?_
        refine AW.cond rfl (fun c2 => ?_) (fun c2 => ?_)
        · have hltp : p < 2 := by have := of_decide_eq_true c2; omega
          refine AW.skip ?_
          refine .seq <|
            .block <|
            .seq <|
            .region <|
            .mI rfl rfl <|
            .fi rfl f29_12 rfl ?_
          refine .u rfl rfl rfl (q_ia_ai rfl underlying26 sizeOf25 rfl rfl (by omega) (by omega) rfl) ?_
          refine .u rfl rfl rfl (q_load_iN (ds := plRow (s.pl (Int.toNat (p : Int)))) rfl isAgg25 sizeOf25 rfl rfl (plp_at (by omega) (by omega))) ?_
          refine AOps.s rfl rfl rfl (a_alloc rfl zeroValue25 rfl (fun id6 hid6 => ?_))
          refine .sw sizeOf25 rfl rfl rfl rfl ?_
          refine AOps.done 6 rfl hid6 ?_
          refine .nil <|
            .seq <|
            .seq <|
            .region ?_
          refine .u rfl rfl rfl (q_ia_ai rfl underlying25 sizeOf3 rfl rfl (by decide) (by decide) rfl) ?_
          refine .li rfl isAgg3 rfl rfl ?_
          refine .u rfl rfl rfl (QOp.call rfl call100 fun h' hl' => by exact refIn_calls _ _ _ h') ?_
          refine .nt rfl rfl <|
            .mB rfl rfl ?_
          refine .gf rfl rfl rfl (fun _ => tl0) (fun hc => q_ia_ai rfl underlying25 sizeOf3 rfl rfl (by decide) (by decide) rfl) ?_
          refine .gf rfl rfl rfl (fun hc => tl1 36 (.opt hc)) (fun hc => q_load_i1 rfl isAgg3 rfl rfl) ?_
          refine .gf rfl rfl rfl (fun hc => tl1 37 (.opt hc)) (fun hc => QOp.call rfl (by exact call100) fun h' hl' => by exact refIn_calls _ _ _ h') ?_
          refine .gf rfl rfl rfl (fun hc => tl1 38 (.opt hc)) (fun hc => q_not rfl rfl) ?_
          refine .pf rfl rfl rfl rfl <|
            .mB rfl rfl ?_
          refine .gf rfl rfl rfl (fun _ => tl0) (fun hc => q_ia_ai rfl underlying25 sizeOf3 rfl rfl (by decide) (by decide) rfl) ?_
          refine .gf rfl rfl rfl (fun hc => tl1 42 (.opt hc)) (fun hc => q_load_i1 rfl isAgg3 rfl rfl) ?_
          refine .gf rfl rfl rfl (fun hc => tl1 43 (.opt hc)) (fun hc => QOp.call rfl (by exact call100) fun h' hl' => by exact refIn_calls _ _ _ h') ?_
          refine .gf rfl rfl rfl (fun hc => tl1 44 (.opt hc)) (fun hc => q_not rfl rfl) ?_
          refine .pf rfl rfl rfl rfl <|
            .nil ?_
          refine AW.cond rfl (fun c3 => ?_) (fun c3 => ?_)
          · skip
            refine .seq <|
              .region <|
              .aB rfl rfl <|
              .nil ?_
            refine AW.ret ?_
            exact retQ.mk' (.one _) (VLe.of_eq (congrArg V.bool (by rw [rr_pl hltp (rp_head (by simpa using c3))]))) (HLe.refl _) ⟨rfl, rfl⟩
          · skip
            refine AW.skip ?_
            refine .seq <|
              .region <|
              .aI rfl rfl <|
              .nil <|
              .block ?_
            refine AW.loop (fun n T hh => ∃ (k : Nat) , k ≤ 6 ∧ n = 6 - k ∧ T = put (put (put (put (T0) 7 (V.int .i64 ((k : Nat) + 1))) 6 (V.iptr (plRow (s.pl p)))) 5 (V.int .i64 (p : Nat))) 1 (V.iptr (cState s)) ∧ hh = h' ∧ ∀ j, j < k → inB (s.pl p (j + 1)) 0 1000 = true) (6) ?_ ?_
            · skip
              refine Wk.mk (TLe.put (d := 1) (VLe.refl _) (TLe.put (d := 5) (VLe.refl _) (TLe.put (d := 6) (VLe.refl _) (TLe.put (d := 7) (by exact VLe.of_eq (congrArg (V.int .i64) (by first | rfl | omega))) (TLe.zero _))))) (HLe.refl _) ⟨0, Nat.zero_le _, rfl, rfl, rfl, fun j hj => by omega⟩
            · skip
              rintro n T h' ⟨k, hk, rfl, rfl, rfl, hk2⟩
              refine .seq <|
                .seq <|
                .region <|
                .mI rfl rfl ?_
              refine .u rfl rfl rfl (q_le rfl rfl rfl) ?_
              refine .nil ?_
              refine AW.cond rfl (fun c4 => ?_) (fun c4 => ?_)
              · have hltk : k < 6 := by have := of_decide_eq_true c4; omega
                refine AW.skip ?_
                refine .seq <|
                  .block <|
                  .seq <|
                  .region <|
                  .mI rfl rfl ?_
                refine .u rfl rfl rfl (q_ia_ai rfl underlying25 sizeOf3 rfl rfl (by omega) (by omega) rfl) ?_
                refine .u rfl rfl rfl (q_load_i1 rfl isAgg3 rfl (plRow_at1 hltk)) ?_
                refine .u rfl rfl rfl (QOp.call rfl call100 fun h' hl' => by exact refIn_calls _ _ _ h') ?_
                refine .nt rfl rfl <|
                  .nil ?_
                refine AW.cond rfl (fun c5 => ?_) (fun c5 => ?_)
                · skip
                  refine .seq <|
                    .region <|
                    .aB rfl rfl <|
                    .nil ?_
                  refine AW.ret ?_
                  exact retQ.mk' (.one _) (VLe.of_eq (congrArg V.bool (by rw [rr_pl hltp (rp_field hltk (by simpa using c5))]))) (HLe.refl _) ⟨rfl, rfl⟩
                · skip
                  refine AW.skip ?_
                  refine .region <|
                    .mI rfl rfl <|
                    .ad rfl rfl rfl (by omega) <|
                    .aI rfl rfl <|
                    .nil ?_
                  refine Wk.mk (TLe.put (d := 1) (VLe.refl _) (TLe.put (d := 5) (VLe.refl _) (TLe.put (d := 6) (VLe.refl _) (TLe.put (d := 7) (by exact VLe.of_eq (congrArg (V.int .i64) (by first | rfl | omega))) (TLe.zero _))))) (HLe.refl _) ⟨_, ?_, k + 1, ?_, rfl, rfl, rfl, all_step (p := fun j => inB (s.pl p (j + 1)) 0 1000) hk2 (by simpa using c5)⟩
                  · omega
                  · omega
              · obtain rfl : k = 6 := by have := of_decide_eq_false c4; omega
                refine AW.exit ?_
                refine .region <|
                  .mI rfl rfl <|
                  .ad rfl rfl rfl (by omega) <|
                  .aI rfl rfl <|
                  .nil ?_
                refine Wk.mk (TLe.put (d := 1) (VLe.refl _) (TLe.put (d := 5) (by exact VLe.of_eq (congrArg (V.int .i64) (by first | rfl | omega))) (TLe.zero _))) (HLe.refl _) ⟨_, ?_, p + 1, ?_, rfl, rfl, rfl, all_step (p := fun j => refPl (s.pl j)) hp2 (by simp only [refPl, Bool.and_eq_true]; exact ⟨by simpa using c3, all_up.2 hk2⟩)⟩
                · omega
                · omega
        · obtain rfl : p = 2 := by have := of_decide_eq_false c2; omega
          refine AW.exit ?_
          refine .seq <|
            .region <|
            .fi rfl f29_30 rfl ?_
          refine .u rfl rfl rfl (q_load_iN rfl isAgg27 sizeOf27 rfl (by rfl) rfl) ?_
          refine AOps.s rfl rfl rfl (a_alloc rfl zeroValue27 rfl (fun id8 hid8 => ?_))
          refine .sw sizeOf27 rfl rfl rfl rfl ?_
          refine AOps.done 8 rfl hid8 ?_
          refine .nil <|
            .seq <|
            .region ?_
          refine .u rfl rfl rfl (q_ia_ai rfl underlying27 sizeOf3 rfl rfl (by decide) (by decide) rfl) ?_
          refine .li rfl isAgg3 rfl rfl ?_
          refine .u rfl rfl rfl (QOp.call rfl call100 fun h' hl' => by exact refIn_calls _ _ _ h') ?_
          refine .mB rfl rfl ?_
          refine .gt rfl rfl rfl (fun _ => tl0) (fun hc => q_ia_ai rfl underlying27 sizeOf3 rfl rfl (by decide) (by decide) rfl) ?_
          refine .gt rfl rfl rfl (fun hc => tl1 62 (.opt hc)) (fun hc => q_load_i1 rfl isAgg3 rfl rfl) ?_
          refine .gt rfl rfl rfl (fun hc => tl1 63 (.opt hc)) (fun hc => QOp.call rfl (by exact call100) fun h' hl' => by exact refIn_calls _ _ _ h') ?_
          refine .pt rfl rfl rfl rfl <|
            .mB rfl rfl ?_
          refine .gt rfl rfl rfl (fun _ => tl0) (fun hc => q_ia_ai rfl underlying27 sizeOf3 rfl rfl (by decide) (by decide) rfl) ?_
          refine .gt rfl rfl rfl (fun hc => tl1 67 (.opt hc)) (fun hc => q_load_i1 rfl isAgg3 rfl rfl) ?_
          refine .gt rfl rfl rfl (fun hc => tl1 68 (.opt hc)) (fun hc => QOp.call rfl (by exact call100) fun h' hl' => by exact refIn_calls _ _ _ h') ?_
          refine .pt rfl rfl rfl rfl <|
            .mB rfl rfl ?_
          refine .gt rfl rfl rfl (fun _ => tl0) (fun hc => q_ia_ai rfl underlying27 sizeOf3 rfl rfl (by decide) (by decide) rfl) ?_
          refine .gt rfl rfl rfl (fun hc => tl1 72 (.opt hc)) (fun hc => q_load_i1 rfl isAgg3 rfl rfl) ?_
          refine .gt rfl rfl rfl (fun hc => tl1 73 (.opt hc)) (fun hc => QOp.call rfl (by exact call100) fun h' hl' => by exact refIn_calls _ _ _ h') ?_
          refine .pt rfl rfl rfl rfl <|
            .mB rfl rfl ?_
          refine .gt rfl rfl rfl (fun _ => tl0) (fun hc => q_ia_ai rfl underlying27 sizeOf3 rfl rfl (by decide) (by decide) rfl) ?_
          refine .gt rfl rfl rfl (fun hc => tl1 77 (.opt hc)) (fun hc => q_load_i1 rfl isAgg3 rfl rfl) ?_
          refine .gt rfl rfl rfl (fun hc => tl1 78 (.opt hc)) (fun hc => QOp.call rfl (by exact call100) fun h' hl' => by exact refIn_calls _ _ _ h') ?_
          refine .pt rfl rfl rfl rfl <|
            .mB rfl rfl ?_
          refine .gt rfl rfl rfl (fun _ => tl0) (fun hc => q_ia_ai rfl underlying27 sizeOf3 rfl rfl (by decide) (by decide) rfl) ?_
          refine .gt rfl rfl rfl (fun hc => tl1 82 (.opt hc)) (fun hc => q_load_i1 rfl isAgg3 rfl rfl) ?_
          refine .gt rfl rfl rfl (fun hc => tl1 83 (.opt hc)) (fun hc => QOp.call rfl (by exact call100) fun h' hl' => by exact refIn_calls _ _ _ h') ?_
          refine .pt rfl rfl rfl rfl <|
            .mB rfl rfl ?_
          refine .gt rfl rfl rfl (fun _ => tl0) (fun hc => q_ia_ai rfl underlying27 sizeOf3 rfl rfl (by decide) (by decide) rfl) ?_
          refine .gt rfl rfl rfl (fun hc => tl1 87 (.opt hc)) (fun hc => q_load_i1 rfl isAgg3 rfl rfl) ?_
          refine .gt rfl rfl rfl (fun hc => tl1 88 (.opt hc)) (fun hc => QOp.call rfl (by exact call100) fun h' hl' => by exact refIn_calls _ _ _ h') ?_
          refine .pt rfl rfl rfl rfl <|
            .aB rfl rfl <|
            .nil ?_
          refine AW.ret ?_
          exact retQ.mk' (.one _) (VLe.of_eq (congrArg V.bool (by rw [refRanges, objs_all.2 hj, all_up.2 hp2, refGame]; simp))) (HLe.refl _) ⟨rfl, rfl⟩

def refStand (o : Obj) : Bool := !((decide (o 3 < 8) && (o 1 != o 3 % 2 || o 13 != 0)) || (o 3 == 8 && o 13 == 2))
def refOcc (s : St) (i : Nat) : Bool := decide ((ids s).count (i : Int) = 1) && ((List.range 11).all fun z => (s.lists z).all fun x => x != (i : Int) || (s.objs.getD i noObj 3 == (z : Int))) && refStand (s.objs.getD i noObj)
def refZones (s : St) : Bool := ((List.range 11).all fun z => (s.lists z).all fun x => inN x s.objs.length) && (List.range s.objs.length).all (refOcc s)
theorem rz_in {s : St} {z k : Nat} (hz : z < 11) (hk : k < (s.lists z).length) (h : inN ((s.lists z).getD k 0) s.objs.length = false) : refZones s = false := by
  have : (s.lists z).all (fun x => inN x s.objs.length) = false := by
    cases e : (s.lists z).all (fun x => inN x s.objs.length) with
    | false => rfl
    | true => rw [list_all.1 e k hk] at h; cases h
  have : ((List.range 11).all fun z => (s.lists z).all fun x => inN x s.objs.length) = false := all_bad hz this
  simp only [refZones, this, Bool.false_and]
theorem rz_occ {s : St} {i : Nat} (hi : i < s.objs.length) (h : refOcc s i = false) : refZones s = false := by
  have : (List.range s.objs.length).all (refOcc s) = false := all_bad hi h
  simp only [refZones, this, Bool.and_false]
theorem ro_zone {s : St} {i z k : Nat} (hz : z < 11) (hk : k < (s.lists z).length) (hx : (s.lists z).getD k 0 = (i : Int)) (h : (z : Int) ≠ s.objs.getD i noObj 3) : refOcc s i = false := by
  have : (s.lists z).all (fun x => x != (i : Int) || (s.objs.getD i noObj 3 == (z : Int))) = false := by
    cases e : (s.lists z).all (fun x => x != (i : Int) || (s.objs.getD i noObj 3 == (z : Int))) with
    | false => rfl
    | true =>
      have := list_all.1 e k hk
      rw [hx] at this
      simp at this; exact absurd this.symm h
  have : ((List.range 11).all fun z => (s.lists z).all fun x => x != (i : Int) || (s.objs.getD i noObj 3 == (z : Int))) = false := all_bad hz this
  simp only [refOcc, this, Bool.and_false, Bool.false_and]
theorem ro_count {s : St} {i : Nat} (h : ((ids s).count (i : Int) : Int) ≠ 1) : refOcc s i = false := by
  have : decide ((ids s).count (i : Int) = 1) = false := decide_eq_false (by omega)
  simp only [refOcc, this, Bool.false_and]
theorem lists_at {s : St} {z : Nat} (h : z < 11) : (((cState s).drop 1).drop ((z : Int).toNat * 1))[0]? = some (eInts (s.lists z)) := by
  rw [Int.toNat_natCast, Nat.mul_one]
  match z, h with
  | 0, _ | 1, _ | 2, _ | 3, _ | 4, _ | 5, _ | 6, _ | 7, _ | 8, _ | 9, _ | 10, _ => rfl
theorem rz_yes {x n : Int} (c : (bif decide (x < 0) then true else decide (n ≤ x)) = false) : inN x n = true := by
  cases h : decide (x < 0)
  · rw [h] at c; simp at c h; simp [inN]; omega
  · rw [h] at c; cases c
theorem rz_no {x n : Int} (c : (bif decide (x < 0) then true else decide (n ≤ x)) = true) : inN x n = false := by
  cases h : decide (x < 0)
  · rw [h] at c; simp at c h; simp [inN]; omega
  · simp at h; simp [inN]; omega
theorem occ_yes {x i z o : Int} (h : (z != o) = false) : (x != i || (o == z)) = true := by
  have : z = o := by simpa using h
  simp [this]
theorem occ_no {x i : Int} {b : Bool} (h : (x == i) = false) : (x != i || b) = true := by
  simp [bne, h]
theorem stand_pick {o : Obj} : (bif (bif decide (o 3 < 8) then (bif o 1 != o 3 % 2 then true else o 13 != 0) else false) then true else (bif o 3 == 8 then o 13 == 2 else false)) = !refStand o := by
  unfold refStand
  generalize decide (o 3 < 8) = a; generalize (o 1 != o 3 % 2) = b; generalize (o 13 != 0) = c; generalize (o 3 == 8) = d; generalize (o 13 == 2) = e
  cases a <;> cases b <;> cases c <;> cases d <;> cases e <;> rfl
theorem ro_stand {s : St} {i : Nat} (h : (!refStand (s.objs.getD i noObj)) = true) : refOcc s i = false := by
  have : refStand (s.objs.getD i noObj) = false := by simpa using h
  simp only [refOcc, this, Bool.and_false]
theorem ro_all {s : St} {i : Nat} (h1 : (((upto s 11 0).count (i : Int) : Nat) : Int) = 1) (h2 : ∀ j, j < 11 → (s.lists j).all (fun x => x != (i : Int) || (s.objs.getD i noObj 3 == (j : Int))) = true) (h3 : (!refStand (s.objs.getD i noObj)) = false) : refOcc s i = true := by
  have e3 : refStand (s.objs.getD i noObj) = true := by simpa using h3
  have e1 : (ids s).count (i : Int) = 1 := by rw [← upto_all]; omega
  have e2 := all_up.2 h2
  simp only [refOcc, e3, e2, decide_eq_true e1, Bool.and_self]
theorem cnt_succ {s : St} {z k i : Nat} (h : k < (s.lists z).length) : (upto s z (k + 1)).count (i : Int) = (upto s z k).count (i : Int) + if (s.lists z).getD k 0 = (i : Int) then 1 else 0 := by
  rw [upto_succ h, List.count_append, List.count_singleton]; simp only [beq_iff_eq]
theorem cnt_len {s : St} (hl : ∀ z, (s.lists z).length ≤ 1000000) (z k : Nat) (x : Int) (hz : z ≤ 11) : (upto s z k).count x ≤ 12000000 := by
  have h1 := upto_len hl z k
  have h2 := List.count_le_length (a := x) (l := upto s z k)
  have : z * 1000000 ≤ 11 * 1000000 := Nat.mul_le_mul_right _ hz
  omega

theorem refZones_calls (s : St) (hb : s.objs.length ≤ 1000000) (hl : ∀ z, (s.lists z).length ≤ 1000000) (h3 : ∀ i, i < s.objs.length → 0 ≤ s.objs.getD i noObj 3 ∧ s.objs.getD i noObj 3 ≤ 10) (h : Hp) : ACalls prog G 64 [eState s] h fun r h' => r = .bool (refZones s) ∧ h' = h := by
  refine ACalls.enter func64 rfl ntmps64 results64 rfl ?_
  refine .seq <|
    .region <|
    .bx rfl rfl <|
    .aB rfl rfl <|
    .nil <|
    .seq <|
    .seq <|
    .region <|
    .aI rfl rfl <|
    .nil <|
    .block ?_
  refine AW.loop (fun n T hh => ∃ (z : Nat) , z ≤ 11 ∧ n = 11 - z ∧ T = put (put (T0) 3 (V.int .i64 (z : Nat))) 1 (V.iptr (cState s)) ∧ hh = h ∧ ∀ j, j < z → (s.lists j).all (fun x => inN x s.objs.length) = true) (11) ?_ ?_
  · skip
    refine Wk.mk (TLe.put (d := 1) (VLe.refl _) (TLe.put (d := 3) (by exact VLe.of_eq (congrArg (V.int .i64) (by first | rfl | omega))) (TLe.zero _))) (HLe.refl _) ⟨0, Nat.zero_le _, rfl, rfl, rfl, fun j hj => by omega⟩
  · skip
    rintro n T h' ⟨z, hz, rfl, rfl, rfl, hz2⟩
    refine .seq <|
      .seq <|
      .region <|
      .mI rfl rfl <|
      .ql rfl rfl rfl <|
      .nil ?_
    refine AW.cond rfl (fun c0 => ?_) (fun c0 => ?_)
    · have hltz : z < 11 := by have := of_decide_eq_true c0; omega
      have hlz := hl z
      refine AW.skip ?_
      refine .seq <|
        .block <|
        .seq <|
        .region <|
        .mI rfl rfl <|
        .fi rfl f29_1 rfl ?_
      refine .u rfl rfl rfl (q_ia_ai rfl underlying24 sizeOf23 rfl rfl (by omega) (by omega) rfl) ?_
      refine .u rfl rfl rfl (q_load_i1 rfl isAgg23 rfl (lists_at hltz)) ?_
      refine .ln rfl underlying23 rfl <|
        .mI rfl rfl <|
        .nil <|
        .block ?_
      refine AW.loop (fun n T hh => ∃ (k : Nat) , k ≤ (s.lists z).length ∧ n = (s.lists z).length - k ∧ T = put (put (put (put (put (T0) 21 (V.int .i64 (k : Nat))) 20 (V.int .i64 (s.lists z).length)) 19 (eInts (s.lists z))) 3 (V.int .i64 (z : Nat))) 1 (V.iptr (cState s)) ∧ hh = h' ∧ ∀ j, j < k → inN ((s.lists z).getD j 0) s.objs.length = true) ((s.lists z).length) ?_ ?_
      · skip
        refine Wk.mk (TLe.put (d := 1) (VLe.refl _) (TLe.put (d := 3) (VLe.refl _) (TLe.put (d := 19) (VLe.refl _) (TLe.put (d := 20) (VLe.refl _) (TLe.put (d := 21) (by exact VLe.of_eq (congrArg (V.int .i64) (by first | rfl | omega))) (TLe.zero _)))))) (HLe.refl _) ⟨0, Nat.zero_le _, rfl, rfl, rfl, fun j hj => by omega⟩
      · skip
        rintro n T h' ⟨k, hk, rfl, rfl, rfl, hk2⟩
        refine .seq <|
          .region <|
          .ql rfl rfl rfl <|
          .nil <|
          .seq ?_
        refine AW.cond rfl (fun c1 => ?_) (fun c1 => ?_)
        · have hltk : k < (s.lists z).length := by have := of_decide_eq_true c1; omega
          refine AW.skip ?_
          refine .seq <|
            .block <|
            .seq <|
            .region ?_
          refine .u rfl rfl rfl (q_ia_s rfl underlying23 sizeOf3 rfl rfl (by omega) (by omega) (cInts_at hltk)) ?_
          refine .li rfl isAgg3 rfl rfl <|
            .aI rfl rfl <|
            .nil <|
            .seq <|
            .region <|
            .mI rfl rfl <|
            .ql rfl rfl rfl <|
            .mB rfl rfl ?_
          refine .gf rfl rfl rfl (fun _ => tl0) (fun hc => q_mv rfl (rfl : _ = V.int _ _)) ?_
          refine .gf rfl rfl rfl (fun _ => tl0) (fun hc => q_fa_i rfl underlying29 rfl (by exact sizeOf22) (by decide) rfl (rfl : _ = List.drop 0 _)) ?_
          refine .gf rfl rfl rfl (fun hc => tl1 29 (.opt hc)) (fun hc => q_load_i1 rfl isAgg22 rfl rfl) ?_
          refine .gf rfl rfl rfl (fun hc => tl1 30 (.opt hc)) (fun hc => q_len rfl underlying22 rfl) ?_
          refine .gf rfl rfl rfl (fun hc => tl2 31 28 (.opt hc) (.opt hc)) (fun hc => q_ge rfl rfl rfl) ?_
          refine .pf rfl rfl rfl rfl <|
            .nil ?_
          refine AW.cond rfl (fun c2 => ?_) (fun c2 => ?_)
          · skip
            refine .seq <|
              .region <|
              .aB rfl rfl <|
              .nil ?_
            refine AW.ret ?_
            exact retQ.mk' (.one _) (VLe.of_eq (congrArg V.bool (by rw [rz_in hltz hltk (rz_no c2)]))) (HLe.refl _) ⟨rfl, rfl⟩
          · skip
            refine AW.skip ?_
            refine .region <|
              .ad rfl rfl rfl (by omega) <|
              .mI rfl rfl <|
              .nil ?_
            refine Wk.mk (TLe.put (d := 1) (VLe.refl _) (TLe.put (d := 3) (VLe.refl _) (TLe.put (d := 19) (VLe.refl _) (TLe.put (d := 20) (VLe.refl _) (TLe.put (d := 21) (by exact VLe.of_eq (congrArg (V.int .i64) (by first | rfl | omega))) (TLe.zero _)))))) (HLe.refl _) ⟨_, ?_, k + 1, ?_, rfl, rfl, rfl, all_step (p := fun j => inN ((s.lists z).getD j 0) s.objs.length) hk2 (rz_yes c2)⟩
            · omega
            · omega
        · obtain rfl : k = (s.lists z).length := by have := of_decide_eq_false c1; omega
          refine AW.exit ?_
          refine .region <|
            .mI rfl rfl <|
            .ad rfl rfl rfl (by omega) <|
            .aI rfl rfl <|
            .nil ?_
          refine Wk.mk (TLe.put (d := 1) (VLe.refl _) (TLe.put (d := 3) (by exact VLe.of_eq (congrArg (V.int .i64) (by first | rfl | omega))) (TLe.zero _))) (HLe.refl _) ⟨_, ?_, z + 1, ?_, rfl, rfl, rfl, all_step (p := fun j => (s.lists j).all (fun x => inN x s.objs.length)) hz2 (list_all.2 hk2)⟩
          · omega
          · omega
    · obtain rfl : z = 11 := by have := of_decide_eq_false c0; omega
      refine AW.exit ?_
      refine .seq <|
        .seq <|
        .region <|
        .fi rfl f29_0 rfl <|
        .li rfl isAgg22 rfl rfl <|
        .ln rfl underlying22 rfl <|
        .mI rfl rfl <|
        .nil <|
        .block ?_
      refine AW.loop (fun n T hh => ∃ (i : Nat) , i ≤ s.objs.length ∧ n = s.objs.length - i ∧ T = put (put (put (put (T0) 38 (V.int .i64 (i : Nat))) 37 (V.int .i64 s.objs.length)) 36 (eObjs s.objs)) 1 (V.iptr (cState s)) ∧ hh = h' ∧ ∀ j, j < i → refOcc s j = true) (s.objs.length) ?_ ?_
      · skip
        refine Wk.mk (TLe.put (d := 1) (VLe.refl _) (TLe.put (d := 36) (VLe.refl _) (TLe.put (d := 37) (VLe.refl _) (TLe.put (d := 38) (by exact VLe.of_eq (congrArg (V.int .i64) (by first | rfl | omega))) (TLe.zero _))))) (HLe.refl _) ⟨0, Nat.zero_le _, rfl, rfl, rfl, fun j hj => by omega⟩
      · skip
        rintro n T h' ⟨i, hi, rfl, rfl, rfl, hj⟩
        refine .seq <|
          .region <|
          .ql rfl rfl rfl <|
          .nil <|
          .seq ?_
        refine AW.cond rfl (fun c3 => ?_) (fun c3 => ?_)
        · have hlt : i < s.objs.length := by have := of_decide_eq_true c3; omega
          have h3i := h3 i hlt
          refine AW.skip ?_
          refine .seq <|
            .block <|
            .seq <|
            .region <|
            .mI rfl rfl ?_
          refine .u rfl rfl rfl (q_ia_s rfl underlying22 sizeOf58 rfl rfl (by omega) (by omega) (cObjs_elem' (by omega) (by omega))) ?_
          refine .lw rfl isAgg58 sizeOf58 rfl rfl ?_
          refine AOps.s rfl rfl rfl (a_alloc rfl zeroValue58 rfl (fun id7 hid7 => ?_))
          refine .aI rfl rfl <|
            .sw sizeOf58 rfl rfl rfl rfl ?_
          refine AOps.done 7 rfl hid7 ?_
          refine .nil <|
            .seq <|
            .region <|
            .aI rfl rfl <|
            .nil <|
            .seq <|
            .seq <|
            .region <|
            .aI rfl rfl <|
            .nil <|
            .block ?_
          refine AW.loop (fun n T hh => ∃ (y : Nat) , y ≤ 11 ∧ n = 11 - y ∧ T = put (put (put (put (put (put (put (put (T0) 9 (V.int .i64 (y : Nat))) 8 (V.int .i64 ((upto s y 0).count (i : Int) : Nat))) 7 (V.iptr (cObj (s.objs.getD i noObj)))) 6 (V.int .i64 (i : Nat))) 38 (V.int .i64 (i : Nat))) 37 (V.int .i64 s.objs.length)) 36 (eObjs s.objs)) 1 (V.iptr (cState s)) ∧ hh = h' ∧ ∀ j, j < y → (s.lists j).all (fun x => x != (i : Int) || (s.objs.getD i noObj 3 == (j : Int))) = true) (11) ?_ ?_
          · skip
            refine Wk.mk (TLe.put (d := 1) (VLe.refl _) (TLe.put (d := 36) (VLe.refl _) (TLe.put (d := 37) (VLe.refl _) (TLe.put (d := 38) (VLe.refl _) (TLe.put (d := 6) (VLe.refl _) (TLe.put (d := 7) (VLe.refl _) (TLe.put (d := 8) (by exact VLe.refl _) (TLe.put (d := 9) (by exact VLe.of_eq (congrArg (V.int .i64) (by first | rfl | omega))) (TLe.zero _))))))))) (HLe.refl _) ⟨0, Nat.zero_le _, rfl, rfl, rfl, fun j hj => by omega⟩
          · skip
            rintro n T h' ⟨y, hy, rfl, rfl, rfl, hy2⟩
            refine .seq <|
              .seq <|
              .region <|
              .mI rfl rfl <|
              .ql rfl rfl rfl <|
              .nil ?_
            refine AW.cond rfl (fun c4 => ?_) (fun c4 => ?_)
            · have hlty : y < 11 := by have := of_decide_eq_true c4; omega
              have hly := hl y
              refine AW.skip ?_
              refine .seq <|
                .block <|
                .seq <|
                .region <|
                .mI rfl rfl <|
                .fi rfl f29_1 rfl ?_
              refine .u rfl rfl rfl (q_ia_ai rfl underlying24 sizeOf23 rfl rfl (by omega) (by omega) rfl) ?_
              refine .u rfl rfl rfl (q_load_i1 rfl isAgg23 rfl (lists_at hlty)) ?_
              refine .ln rfl underlying23 rfl <|
                .mI rfl rfl <|
                .nil <|
                .block ?_
              refine AW.loop (fun n T hh => ∃ (q : Nat) , q ≤ (s.lists y).length ∧ n = (s.lists y).length - q ∧ T = put (put (put (put (put (put (put (put (put (put (put (T0) 52 (V.int .i64 (q : Nat))) 51 (V.int .i64 (s.lists y).length)) 50 (eInts (s.lists y))) 9 (V.int .i64 (y : Nat))) 8 (V.int .i64 ((upto s y q).count (i : Int) : Nat))) 7 (V.iptr (cObj (s.objs.getD i noObj)))) 6 (V.int .i64 (i : Nat))) 38 (V.int .i64 (i : Nat))) 37 (V.int .i64 s.objs.length)) 36 (eObjs s.objs)) 1 (V.iptr (cState s)) ∧ hh = h' ∧ ∀ j, j < q → ((s.lists y).getD j 0 != (i : Int) || (s.objs.getD i noObj 3 == (y : Int))) = true) ((s.lists y).length) ?_ ?_
              · skip
                refine Wk.mk (TLe.put (d := 1) (VLe.refl _) (TLe.put (d := 36) (VLe.refl _) (TLe.put (d := 37) (VLe.refl _) (TLe.put (d := 38) (VLe.refl _) (TLe.put (d := 6) (VLe.refl _) (TLe.put (d := 7) (VLe.refl _) (TLe.put (d := 8) (by exact VLe.of_eq (congrArg (V.int .i64) (by first | rfl | omega))) (TLe.put (d := 9) (VLe.refl _) (TLe.put (d := 50) (VLe.refl _) (TLe.put (d := 51) (VLe.refl _) (TLe.put (d := 52) (by exact VLe.of_eq (congrArg (V.int .i64) (by first | rfl | omega))) (TLe.zero _)))))))))))) (HLe.refl _) ⟨0, Nat.zero_le _, rfl, rfl, rfl, fun j hj => by omega⟩
              · skip
                rintro n T h' ⟨q, hq, rfl, rfl, rfl, hq2⟩
                refine .seq <|
                  .region <|
                  .ql rfl rfl rfl <|
                  .nil <|
                  .seq ?_
                refine AW.cond rfl (fun c5 => ?_) (fun c5 => ?_)
                · have hltq : q < (s.lists y).length := by have := of_decide_eq_true c5; omega
                  have hcl := cnt_len hl y q (i : Int) (by omega)
                  refine AW.skip ?_
                  refine .seq <|
                    .block <|
                    .seq <|
                    .region ?_
                  refine .u rfl rfl rfl (q_ia_s rfl underlying23 sizeOf3 rfl rfl (by omega) (by omega) (cInts_at hltq)) ?_
                  refine .li rfl isAgg3 rfl rfl <|
                    .aI rfl rfl <|
                    .nil <|
                    .seq <|
                    .region <|
                    .mI rfl rfl <|
                    .mI rfl rfl <|
                    .qe rfl rfl rfl <|
                    .nil ?_
                  refine AW.cond rfl (fun c6 => ?_) (fun c6 => ?_)
                  · skip
                    refine .seq <|
                      .region <|
                      .mI rfl rfl <|
                      .ad rfl rfl rfl (by omega) <|
                      .aI rfl rfl <|
                      .nil <|
                      .seq <|
                      .region <|
                      .mI rfl rfl ?_
                    refine .u rfl rfl rfl (q_ia_ai rfl underlying58 sizeOf3 rfl rfl (by decide) (by decide) rfl) ?_
                    refine .li rfl isAgg3 rfl rfl <|
                      .qn rfl rfl rfl <|
                      .nil ?_
                    refine AW.cond rfl (fun c7 => ?_) (fun c7 => ?_)
                    · skip
                      refine .seq <|
                        .region <|
                        .aB rfl rfl <|
                        .nil ?_
                      refine AW.ret ?_
                      exact retQ.mk' (.one _) (VLe.of_eq (congrArg V.bool (by rw [rz_occ hlt (ro_zone hlty hltq (by simpa using c6) (by simpa using c7))]))) (HLe.refl _) ⟨rfl, rfl⟩
                    · skip
                      refine AW.skip ?_
                      refine .region <|
                        .ad rfl rfl rfl (by omega) <|
                        .mI rfl rfl <|
                        .nil ?_
                      refine Wk.mk (TLe.put (d := 1) (VLe.refl _) (TLe.put (d := 36) (VLe.refl _) (TLe.put (d := 37) (VLe.refl _) (TLe.put (d := 38) (VLe.refl _) (TLe.put (d := 6) (VLe.refl _) (TLe.put (d := 7) (VLe.refl _) (TLe.put (d := 8) (by exact VLe.of_eq (congrArg (V.int .i64) (by rw [cnt_succ hltq]; first | (rw [if_pos (by simpa using c6)]; all_goals omega) | (rw [if_neg (by simpa using c6)]; all_goals omega)))) (TLe.put (d := 9) (VLe.refl _) (TLe.put (d := 50) (VLe.refl _) (TLe.put (d := 51) (VLe.refl _) (TLe.put (d := 52) (by exact VLe.of_eq (congrArg (V.int .i64) (by first | rfl | omega))) (TLe.zero _)))))))))))) (HLe.refl _) ⟨_, ?_, q + 1, ?_, rfl, rfl, rfl, all_step (p := fun j => (s.lists y).getD j 0 != (i : Int) || (s.objs.getD i noObj 3 == (y : Int))) hq2 (by first | exact occ_yes c7 | exact occ_no c6)⟩
                      · omega
                      · omega
                  · skip
                    refine AW.skip ?_
                    refine .region <|
                      .ad rfl rfl rfl (by omega) <|
                      .mI rfl rfl <|
                      .nil ?_
                    refine Wk.mk (TLe.put (d := 1) (VLe.refl _) (TLe.put (d := 36) (VLe.refl _) (TLe.put (d := 37) (VLe.refl _) (TLe.put (d := 38) (VLe.refl _) (TLe.put (d := 6) (VLe.refl _) (TLe.put (d := 7) (VLe.refl _) (TLe.put (d := 8) (by exact VLe.of_eq (congrArg (V.int .i64) (by rw [cnt_succ hltq]; first | (rw [if_pos (by simpa using c6)]; all_goals omega) | (rw [if_neg (by simpa using c6)]; all_goals omega)))) (TLe.put (d := 9) (VLe.refl _) (TLe.put (d := 50) (VLe.refl _) (TLe.put (d := 51) (VLe.refl _) (TLe.put (d := 52) (by exact VLe.of_eq (congrArg (V.int .i64) (by first | rfl | omega))) (TLe.zero _)))))))))))) (HLe.refl _) ⟨_, ?_, q + 1, ?_, rfl, rfl, rfl, all_step (p := fun j => (s.lists y).getD j 0 != (i : Int) || (s.objs.getD i noObj 3 == (y : Int))) hq2 (by first | exact occ_yes c7 | exact occ_no c6)⟩
                    · omega
                    · omega
                · obtain rfl : q = (s.lists y).length := by have := of_decide_eq_false c5; omega
                  refine AW.exit ?_
                  refine .region <|
                    .mI rfl rfl <|
                    .ad rfl rfl rfl (by omega) <|
                    .aI rfl rfl <|
                    .nil ?_
                  refine Wk.mk (TLe.put (d := 1) (VLe.refl _) (TLe.put (d := 36) (VLe.refl _) (TLe.put (d := 37) (VLe.refl _) (TLe.put (d := 38) (VLe.refl _) (TLe.put (d := 6) (VLe.refl _) (TLe.put (d := 7) (VLe.refl _) (TLe.put (d := 8) (by exact VLe.of_eq (congrArg (V.int .i64) (by rw [upto_next]))) (TLe.put (d := 9) (by exact VLe.of_eq (congrArg (V.int .i64) (by first | rfl | omega))) (TLe.zero _))))))))) (HLe.refl _) ⟨_, ?_, y + 1, ?_, rfl, rfl, rfl, all_step (p := fun j => (s.lists j).all (fun x => x != (i : Int) || (s.objs.getD i noObj 3 == (j : Int)))) hy2 (list_all.2 hq2)⟩
                  · omega
                  · omega
            · obtain rfl : y = 11 := by have := of_decide_eq_false c4; omega
              refine AW.exit ?_
              refine .seq <|
                .seq <|
                .region <|
                .mI rfl rfl <|
                .qn rfl rfl rfl <|
                .nil ?_
              refine AW.cond rfl (fun c8 => ?_) (fun c8 => ?_)
              · skip
                refine .seq <|
                  .region <|
                  .aB rfl rfl <|
                  .nil ?_
                refine AW.ret ?_
                exact retQ.mk' (.one _) (VLe.of_eq (congrArg V.bool (by rw [rz_occ hlt (ro_count (by rw [← upto_all]; simpa using c8))]))) (HLe.refl _) ⟨rfl, rfl⟩
              · skip
                refine AW.skip ?_
                refine .seq <|
                  .region ?_
                refine .u rfl rfl rfl (q_ia_ai rfl underlying58 sizeOf3 rfl rfl (by decide) (by decide) rfl) ?_
                refine .li rfl isAgg3 rfl rfl <|
                  .ql rfl rfl rfl <|
                  .mB rfl rfl ?_
                refine .gt rfl rfl rfl (fun _ => tl0) (fun hc => q_ia_ai rfl underlying58 sizeOf3 rfl rfl (by decide) (by decide) rfl) ?_
                refine .gt rfl rfl rfl (fun hc => tl1 72 (.opt hc)) (fun hc => q_load_i1 rfl isAgg3 rfl rfl) ?_
                refine .gt rfl rfl rfl (fun _ => tl0) (fun hc => q_ia_ai rfl underlying58 sizeOf3 rfl rfl (by decide) (by decide) rfl) ?_
                refine .gt rfl rfl rfl (fun hc => tl1 74 (.opt hc)) (fun hc => q_load_i1 rfl isAgg3 rfl rfl) ?_
                refine .gt rfl rfl rfl (fun hc => tl1 75 (.opt hc)) (fun hc => q_rem' rfl rfl rfl (by omega) (by omega)) ?_
                refine .gt rfl rfl rfl (fun hc => tl2 76 73 (.opt hc) (.opt hc)) (fun hc => q_ne rfl rfl rfl) ?_
                refine .gt rfl rfl rfl (fun hc => tl1 77 (.opt hc)) (fun hc => q_mv rfl (rfl : _ = V.bool _)) ?_
                refine AOps.g (wanted_fo rfl rfl) rfl rfl (fun _ => tl0) (fun hc => q_ia_ai rfl underlying58 sizeOf3 rfl rfl (by decide) (by decide) rfl) ?_
                refine AOps.g (wanted_fo rfl rfl) rfl rfl (fun hc => tl1 79 (.opt hc)) (fun hc => q_load_i1 rfl isAgg3 rfl rfl) ?_
                refine AOps.g (wanted_fo rfl rfl) rfl rfl (fun hc => tl1 80 (.opt hc)) (fun hc => q_ne rfl rfl rfl) ?_
                refine .gt rfl rfl rfl (fun hc => tl1 78 (.opt hc)) (fun hc => q_pickg rfl rfl (fun hp => by exact VLe.refl _) (fun hp => by first | exact VLe.opt hp | exact VLe.opt (by rw [hp]; rfl) | exact VLe.opt (by simp_all))) ?_
                refine .pt rfl rfl rfl rfl <|
                  .mB rfl rfl ?_
                refine .gf rfl rfl rfl (fun _ => tl0) (fun hc => q_ia_ai rfl underlying58 sizeOf3 rfl rfl (by decide) (by decide) rfl) ?_
                refine .gf rfl rfl rfl (fun hc => tl1 85 (.opt hc)) (fun hc => q_load_i1 rfl isAgg3 rfl rfl) ?_
                refine .gf rfl rfl rfl (fun hc => tl1 86 (.opt hc)) (fun hc => q_eq rfl rfl rfl) ?_
                refine .gf rfl rfl rfl (fun hc => tl1 87 (.opt hc)) (fun hc => q_mv rfl (rfl : _ = V.bool _)) ?_
                refine AOps.g (wanted_to rfl rfl) rfl rfl (fun _ => tl0) (fun hc => q_ia_ai rfl underlying58 sizeOf3 rfl rfl (by decide) (by decide) rfl) ?_
                refine AOps.g (wanted_to rfl rfl) rfl rfl (fun hc => tl1 89 (.opt hc)) (fun hc => q_load_i1 rfl isAgg3 rfl rfl) ?_
                refine AOps.g (wanted_to rfl rfl) rfl rfl (fun hc => tl1 90 (.opt hc)) (fun hc => q_eq rfl rfl rfl) ?_
                refine .gf rfl rfl rfl (fun hc => tl1 88 (.opt hc)) (fun hc => q_pickg rfl rfl (fun hp => by first | exact VLe.opt hp | exact VLe.opt (by rw [hp]; rfl) | exact VLe.opt (by simp_all)) (fun hp => by exact VLe.refl _)) ?_
                refine .pf rfl rfl rfl rfl <|
                  .nil ?_
                refine AW.cond rfl (fun c9 => ?_) (fun c9 => ?_)
                · skip
                  refine .seq <|
                    .region <|
                    .aB rfl rfl <|
                    .nil ?_
                  refine AW.ret ?_
                  exact retQ.mk' (.one _) (VLe.of_eq (congrArg V.bool (by rw [rz_occ hlt (ro_stand (stand_pick.symm.trans c9))]))) (HLe.refl _) ⟨rfl, rfl⟩
                · skip
                  refine AW.skip ?_
                  refine .region <|
                    .ad rfl rfl rfl (by omega) <|
                    .mI rfl rfl <|
                    .nil ?_
                  refine Wk.mk (TLe.put (d := 1) (VLe.refl _) (TLe.put (d := 36) (VLe.refl _) (TLe.put (d := 37) (VLe.refl _) (TLe.put (d := 38) (by exact VLe.of_eq (congrArg (V.int .i64) (by first | rfl | omega))) (TLe.zero _))))) (HLe.refl _) ⟨_, ?_, i + 1, ?_, rfl, rfl, rfl, all_step (p := refOcc s) hj (ro_all (by simpa using c8) hy2 (stand_pick.symm.trans c9))⟩
                  · omega
                  · omega
        · obtain rfl : i = s.objs.length := by have := of_decide_eq_false c3; omega
          refine AW.exit ?_
          refine .seq <|
            .region <|
            .aB rfl rfl <|
            .nil ?_
          refine AW.ret ?_
          exact retQ.mk' (.one _) (VLe.of_eq (congrArg V.bool (by rw [refZones, all_up.2 hz2, all_up.2 hj]; rfl))) (HLe.refl _) ⟨rfl, rfl⟩

def refCheck (s : St) : Int := if 400 < (s.objs.length : Int) then 5 else if refRanges s = false then 1 else if refZones s = false then 12 else if s.objs.any (fun o => !formedF o) then 2 else 0
theorem rr_zone {s : St} (h : refRanges s = true) (i : Nat) (hi : i < s.objs.length) : 0 ≤ s.objs.getD i noObj 3 ∧ s.objs.getD i noObj 3 ≤ 10 := by
  simp only [refRanges, Bool.and_eq_true] at h
  have := objs_all.1 h.1.1 i hi
  simp only [refObject, Bool.and_eq_true] at this
  have := this.1.1.1.1.1.1.1.1.1.1.1.1.1.1.2
  simpa [inB] using this

theorem refCheck_calls (s : St) (hb : s.objs.length ≤ 1000000) (hl : ∀ z, (s.lists z).length ≤ 1000000) (h : Hp) : ACalls prog G 28 [eState s] h fun r h' => r = .int .i64 (refCheck s) ∧ h' = h := by
  refine ACalls.enter func28 rfl ntmps28 results28 rfl ?_
  refine .seq <|
    .region <|
    .bx rfl rfl <|
    .aI rfl rfl <|
    .nil <|
    .seq <|
    .seq <|
    .region <|
    .fi rfl f29_0 rfl <|
    .li rfl isAgg22 rfl rfl <|
    .ln rfl underlying22 rfl ?_
  refine .u rfl rfl rfl (q_gt rfl rfl rfl) ?_
  refine .nil ?_
  refine AW.cond rfl (fun c0 => ?_) (fun c0 => ?_)
  · skip
    refine .seq <|
      .region <|
      .aI rfl rfl <|
      .nil ?_
    refine AW.ret ?_
    exact retQ.mk' (.one _) (VLe.of_eq (congrArg (V.int .i64) (by rw [refCheck, if_pos (by simpa using c0)]))) (HLe.refl _) ⟨rfl, rfl⟩
  · skip
    refine AW.skip ?_
    refine .seq <|
      .seq <|
      .region <|
      .lw rfl isAgg29 sizeOf29 rfl rfl ?_
    refine .u rfl rfl rfl (QOp.call rfl call63 fun h' hl' => by exact refRanges_calls _ (by assumption) h') ?_
    refine .nt rfl rfl <|
      .nil ?_
    refine AW.cond rfl (fun c1 => ?_) (fun c1 => ?_)
    · skip
      refine .seq <|
        .region <|
        .aI rfl rfl <|
        .nil ?_
      refine AW.ret ?_
      exact retQ.mk' (.one _) (VLe.of_eq (congrArg (V.int .i64) (by rw [refCheck, if_neg (by simpa using c0), if_pos (by simpa using c1)]))) (HLe.refl _) ⟨rfl, rfl⟩
    · have hrr : refRanges s = true := by simpa using c1
      refine AW.skip ?_
      refine .seq <|
        .seq <|
        .region <|
        .lw rfl isAgg29 sizeOf29 rfl rfl ?_
      refine .u rfl rfl rfl (QOp.call rfl call64 fun h' hl' => by exact refZones_calls s hb hl (rr_zone hrr) h') ?_
      refine .nt rfl rfl <|
        .nil ?_
      refine AW.cond rfl (fun c2 => ?_) (fun c2 => ?_)
      · skip
        refine .seq <|
          .region <|
          .aI rfl rfl <|
          .nil ?_
        refine AW.ret ?_
        exact retQ.mk' (.one _) (VLe.of_eq (congrArg (V.int .i64) (by rw [refCheck, if_neg (by simpa using c0), if_neg (by simpa using c1), if_pos (by simpa using c2)]))) (HLe.refl _) ⟨rfl, rfl⟩
      · skip
        refine AW.skip ?_
        refine .seq <|
          .seq <|
          .region <|
          .fi rfl f29_0 rfl <|
          .li rfl isAgg22 rfl rfl <|
          .ln rfl underlying22 rfl <|
          .mI rfl rfl <|
          .nil <|
          .block ?_
        refine AW.loop (fun n T hh => ∃ (i : Nat) , i ≤ s.objs.length ∧ n = s.objs.length - i ∧ T = put (put (put (put (T0) 18 (V.int .i64 (i : Nat))) 17 (V.int .i64 s.objs.length)) 16 (eObjs s.objs)) 1 (V.iptr (cState s)) ∧ hh = h ∧ ∀ j, j < i → formedF (s.objs.getD j noObj) = true) (s.objs.length) ?_ ?_
        · skip
          refine Wk.mk (TLe.put (d := 1) (VLe.refl _) (TLe.put (d := 16) (VLe.refl _) (TLe.put (d := 17) (VLe.refl _) (TLe.put (d := 18) (by exact VLe.of_eq (congrArg (V.int .i64) (by first | rfl | omega))) (TLe.zero _))))) (HLe.refl _) ⟨0, Nat.zero_le _, rfl, rfl, rfl, fun j hj => by omega⟩
        · skip
          rintro n T h' ⟨i, hi, rfl, rfl, rfl, hj⟩
          refine .seq <|
            .region <|
            .ql rfl rfl rfl <|
            .nil <|
            .seq ?_
          refine AW.cond rfl (fun c3 => ?_) (fun c3 => ?_)
          · have hlt : i < s.objs.length := by have := of_decide_eq_true c3; omega
            refine AW.skip ?_
            refine .seq <|
              .block <|
              .seq <|
              .region ?_
            refine .u rfl rfl rfl (q_ia_s rfl underlying22 sizeOf58 rfl rfl (by omega) (by omega) (cObjs_elem' (by omega) (by omega))) ?_
            refine .lw rfl isAgg58 sizeOf58 rfl rfl ?_
            refine AOps.s rfl rfl rfl (a_alloc rfl zeroValue58 rfl (fun id4 hid4 => ?_))
            refine .sw sizeOf58 rfl rfl rfl rfl ?_
            refine AOps.done 4 rfl hid4 ?_
            refine .nil <|
              .seq <|
              .region <|
              .lw rfl isAgg58 sizeOf58 rfl rfl ?_
            refine .u rfl rfl rfl (QOp.call rfl call65 fun h' hl' => by exact refFormed_calls _ h') ?_
            refine .nt rfl rfl <|
              .nil ?_
            refine AW.cond rfl (fun c4 => ?_) (fun c4 => ?_)
            · skip
              refine .seq <|
                .region <|
                .aI rfl rfl <|
                .nil ?_
              refine AW.ret ?_
              exact retQ.mk' (.one _) (VLe.of_eq (congrArg (V.int .i64) (by rw [refCheck, if_neg (by simpa using c0), if_neg (by simpa using c1), if_neg (by simpa using c2), if_pos (List.any_eq_true.2 ⟨_, getD_mem' (z := noObj) hlt, c4⟩)]))) (HLe.refl _) ⟨rfl, rfl⟩
            · skip
              refine AW.skip ?_
              refine .region <|
                .ad rfl rfl rfl (by omega) <|
                .mI rfl rfl <|
                .nil ?_
              refine Wk.mk (TLe.put (d := 1) (VLe.refl _) (TLe.put (d := 16) (VLe.refl _) (TLe.put (d := 17) (VLe.refl _) (TLe.put (d := 18) (by exact VLe.of_eq (congrArg (V.int .i64) (by first | rfl | omega))) (TLe.zero _))))) (HLe.refl _) ⟨_, ?_, i + 1, ?_, rfl, rfl, rfl, all_step (p := fun j => formedF (s.objs.getD j noObj)) hj (by simpa using c4)⟩
              · omega
              · omega
          · obtain rfl : i = s.objs.length := by have := of_decide_eq_false c3; omega
            refine AW.exit ?_
            refine .seq <|
              .region <|
              .aI rfl rfl <|
              .nil ?_
            refine AW.ret ?_
            exact retQ.mk' (.one _) (VLe.of_eq (congrArg (V.int .i64) (by rw [refCheck, if_neg (by simpa using c0), if_neg (by simpa using c1), if_neg (by simpa using c2), if_neg (by rw [Bool.not_eq_true, List.any_eq_false]; intro o ho; have := List.all_eq_true.1 (objs_all.2 hj) o ho; simpa using this)]))) (HLe.refl _) ⟨rfl, rfl⟩

end Go.Proofs.YtijhmlkffkedeaaGreatDoor
/- Walks: two states, side by side. -/
namespace Go.Proofs.YtijhmlkffkedeaaGreatDoor
open Go Go.AV Go.Proofs.Tryz
set_option maxRecDepth 100000
set_option maxHeartbeats 1000000
def objN (o : Obj) : List Int := [o 0, o 1, o 2, o 3, o 4, o 5, o 6, o 7, o 8, o 9, o 10, o 11, o 12, o 13, o 14, o 15, o 16, o 17]
def plN (s : St) : List Int := [s.pl 0 0, s.pl 0 1, s.pl 0 2, s.pl 0 3, s.pl 0 4, s.pl 0 5, s.pl 0 6, s.pl 0 7, s.pl 0 8, s.pl 1 0, s.pl 1 1, s.pl 1 2, s.pl 1 3, s.pl 1 4, s.pl 1 5, s.pl 1 6, s.pl 1 7, s.pl 1 8]
def gameN (s : St) : List Int := [s.game 0, s.game 1, s.game 2, s.game 3, s.game 4, s.game 5, s.game 6]
/-- The same states. -/
def statesF (a b : St) : Bool := (decide (a.objs.length = b.objs.length) && decide (plN a = plN b) && decide (gameN a = gameN b)) && (List.range a.objs.length).all (fun i => decide (objN (a.objs.getD i noObj) = objN (b.objs.getD i noObj))) && (List.range 11).all (fun z => intsF (a.lists z) (b.lists z))
theorem statesF_refl (a : St) : statesF a a = true := by
  simp [statesF, intsF]
theorem sf_head {a b : St} (h : (bif (bif (a.objs.length : Int) != b.objs.length then true else !(decide (plN a = plN b))) then true else !(decide (gameN a = gameN b))) = true) : statesF a b = false := by
  cases h0 : decide (a.objs.length = b.objs.length)
  · simp [statesF, h0]
  · have e : ((a.objs.length : Int) != b.objs.length) = false := by simp at h0 ⊢; omega
    rw [e] at h
    cases h1 : decide (plN a = plN b)
    · simp [statesF, h1]
    · rw [h1] at h
      have h2 : decide (gameN a = gameN b) = false := by simpa using h
      simp [statesF, h2]
theorem sf_body {a b : St} (h : (bif (bif (a.objs.length : Int) != b.objs.length then true else !(decide (plN a = plN b))) then true else !(decide (gameN a = gameN b))) = false) : (decide (a.objs.length = b.objs.length) && decide (plN a = plN b) && decide (gameN a = gameN b)) = true := by
  cases h0 : decide (a.objs.length = b.objs.length)
  · have e : ((a.objs.length : Int) != b.objs.length) = true := by simp at h0 ⊢; omega
    rw [e] at h; cases h
  · have e : ((a.objs.length : Int) != b.objs.length) = false := by simp at h0 ⊢; omega
    rw [e] at h
    cases h1 : decide (plN a = plN b)
    · rw [h1] at h; cases h
    · rw [h1] at h
      simpa using h
theorem sf_obj {a b : St} {i : Nat} (hi : i < a.objs.length) (h : decide (objN (a.objs.getD i noObj) = objN (b.objs.getD i noObj)) = false) : statesF a b = false := by
  have : (List.range a.objs.length).all (fun i => decide (objN (a.objs.getD i noObj) = objN (b.objs.getD i noObj))) = false := all_bad hi h
  simp only [statesF, this, Bool.and_false, Bool.false_and]
theorem sf_list {a b : St} {z : Nat} (hz : z < 11) (h : intsF (a.lists z) (b.lists z) = false) : statesF a b = false := by
  have : (List.range 11).all (fun z => intsF (a.lists z) (b.lists z)) = false := all_bad hz h
  simp only [statesF, this, Bool.and_false]

theorem states_calls (a b : St) (hl : ∀ z, (a.lists z).length ≤ 1000000) (hb : a.objs.length ≤ 1000000) (h : Hp) : ACalls prog G 54 [eState a, eState b] h fun r h' => r = .bool (statesF a b) ∧ h' = h := by
  refine ACalls.enter func54 rfl ntmps54 results54 rfl ?_
  refine .seq <|
    .region <|
    .bx rfl rfl <|
    .bx rfl rfl <|
    .aB rfl rfl <|
    .nil <|
    .seq <|
    .seq <|
    .region <|
    .fi rfl f29_0 rfl <|
    .li rfl isAgg22 rfl rfl <|
    .ln rfl underlying22 rfl <|
    .fi rfl f29_0 rfl <|
    .li rfl isAgg22 rfl rfl <|
    .ln rfl underlying22 rfl <|
    .qn rfl rfl rfl <|
    .mB rfl rfl ?_
  refine .gf rfl rfl rfl (fun _ => tl0) (fun hc => q_fa_i rfl underlying29 rfl (by exact sizeOf26) (by decide) rfl (rfl : _ = List.drop 12 _)) ?_
  refine .gf rfl rfl rfl (fun hc => tl1 15 (.opt hc)) (fun hc => q_load_iN rfl isAgg26 sizeOf26 rfl (by rfl) rfl) ?_
  refine .gf rfl rfl rfl (fun _ => tl0) (fun hc => q_fa_i rfl underlying29 rfl (by exact sizeOf26) (by decide) rfl (rfl : _ = List.drop 12 _)) ?_
  refine .gf rfl rfl rfl (fun hc => tl1 17 (.opt hc)) (fun hc => q_load_iN rfl isAgg26 sizeOf26 rfl (by rfl) rfl) ?_
  refine .gf rfl rfl rfl (fun hc => tl2 18 16 (.opt hc) (.opt hc)) (fun hc => q_neI (EqI.array (EqI.array (EqI.int isAgg3 underlying3) isAgg25 underlying25 sizeOf3 sizeOf25 rfl) isAgg26 underlying26 sizeOf25 sizeOf26 rfl) isAgg26 sizeOf26 (by kernel_rfl) rfl (a := plN a) (b := plN b) rfl rfl rfl rfl) ?_
  refine .pf rfl rfl rfl rfl <|
    .mB rfl rfl ?_
  refine .gf rfl rfl rfl (fun _ => tl0) (fun hc => q_fa_i rfl underlying29 rfl (by exact sizeOf27) (by decide) rfl (rfl : _ = List.drop 30 _)) ?_
  refine .gf rfl rfl rfl (fun hc => tl1 22 (.opt hc)) (fun hc => q_load_iN rfl isAgg27 sizeOf27 rfl (by rfl) rfl) ?_
  refine .gf rfl rfl rfl (fun _ => tl0) (fun hc => q_fa_i rfl underlying29 rfl (by exact sizeOf27) (by decide) rfl (rfl : _ = List.drop 30 _)) ?_
  refine .gf rfl rfl rfl (fun hc => tl1 24 (.opt hc)) (fun hc => q_load_iN rfl isAgg27 sizeOf27 rfl (by rfl) rfl) ?_
  refine .gf rfl rfl rfl (fun hc => tl2 25 23 (.opt hc) (.opt hc)) (fun hc => q_neI (EqI.array (EqI.int isAgg3 underlying3) isAgg27 underlying27 sizeOf3 sizeOf27 rfl) isAgg27 sizeOf27 (by kernel_rfl) rfl (a := gameN a) (b := gameN b) rfl rfl rfl rfl) ?_
  refine .pf rfl rfl rfl rfl <|
    .nil ?_
  refine AW.cond rfl (fun c0 => ?_) (fun c0 => ?_)
  · skip
    refine .seq <|
      .region <|
      .aB rfl rfl <|
      .nil ?_
    refine AW.ret ?_
    exact retQ.mk' (.one _) (VLe.of_eq (congrArg V.bool (by rw [sf_head c0]))) (HLe.refl _) ⟨rfl, rfl⟩
  · have hlen : a.objs.length = b.objs.length := by have := sf_body c0; simp only [Bool.and_eq_true, decide_eq_true_eq] at this; exact this.1.1
    refine AW.skip ?_
    refine .seq <|
      .seq <|
      .region <|
      .fi rfl f29_0 rfl <|
      .li rfl isAgg22 rfl rfl <|
      .ln rfl underlying22 rfl <|
      .mI rfl rfl <|
      .nil <|
      .block ?_
    refine AW.loop (fun n T hh => ∃ (i : Nat) , i ≤ a.objs.length ∧ n = a.objs.length - i ∧ T = put (put (put (put (T0) 31 (V.int .i64 (i : Nat))) 30 (V.int .i64 a.objs.length)) 3 (V.iptr (cState b))) 2 (V.iptr (cState a)) ∧ hh = h ∧ ∀ j, j < i → decide (objN (a.objs.getD j noObj) = objN (b.objs.getD j noObj)) = true) (a.objs.length) ?_ ?_
    · skip
      refine Wk.mk (TLe.put (d := 2) (VLe.refl _) (TLe.put (d := 3) (VLe.refl _) (TLe.put (d := 30) (VLe.refl _) (TLe.put (d := 31) (by exact VLe.of_eq (congrArg (V.int .i64) (by first | rfl | omega))) (TLe.zero _))))) (HLe.refl _) ⟨0, Nat.zero_le _, rfl, rfl, rfl, fun j hj => by omega⟩
    · skip
      rintro n T h' ⟨i, hi, rfl, rfl, rfl, hj⟩
      refine .seq <|
        .region <|
        .ql rfl rfl rfl <|
        .nil <|
        .seq ?_
      refine AW.cond rfl (fun c1 => ?_) (fun c1 => ?_)
      · have hlt : i < a.objs.length := by have := of_decide_eq_true c1; omega
        refine AW.skip ?_
        refine .seq <|
          .block <|
          .seq <|
          .region <|
          .mI rfl rfl <|
          .aI rfl rfl <|
          .nil <|
          .seq ?_
        refine AW.draw [] [] [(0, true), (1, true), (2, true), (3, true), (4, true), (5, true), (6, true), (7, true), (8, true), (9, true), (10, true)] mixed (by kernel_rfl) rfl (by kernel_rfl) ?_
        refine .q rfl rfl rfl rfl (q_fa_i rfl underlying29 rfl (by exact sizeOf22) (by decide) rfl (rfl : _ = List.drop 0 _)) ?_
        refine .q rfl rfl rfl rfl (q_load_i1 rfl isAgg22 rfl rfl) ?_
        refine .q rfl rfl rfl rfl (q_mv rfl (rfl : _ = V.int _ _)) ?_
        refine .q rfl rfl rfl rfl (q_ia_s rfl underlying22 sizeOf58 rfl rfl (by omega) (by omega) (cObjs_elem' (l := a.objs) (by omega) (by omega))) ?_
        refine .q rfl rfl rfl rfl (q_load_iW rfl isAgg58 sizeOf58 rfl (by rfl)) ?_
        refine .q rfl rfl rfl rfl (q_fa_i rfl underlying29 rfl (by exact sizeOf22) (by decide) rfl (rfl : _ = List.drop 0 _)) ?_
        refine .q rfl rfl rfl rfl (q_load_i1 rfl isAgg22 rfl rfl) ?_
        refine .q rfl rfl rfl rfl (q_mv rfl (rfl : _ = V.int _ _)) ?_
        refine .q rfl rfl rfl rfl (q_ia_s rfl underlying22 sizeOf58 rfl rfl (by omega) (by omega) (cObjs_elem' (l := b.objs) (by omega) (by omega))) ?_
        refine .q rfl rfl rfl rfl (q_load_iW rfl isAgg58 sizeOf58 rfl (by rfl)) ?_
        refine .q rfl rfl rfl rfl (q_neI (EqI.array (EqI.int isAgg3 underlying3) isAgg58 underlying58 sizeOf3 sizeOf58 rfl) isAgg58 sizeOf58 (by kernel_rfl) rfl (a := objN (a.objs.getD i noObj)) (b := objN (b.objs.getD i noObj)) rfl rfl rfl rfl) ?_
        refine AOrd.nil ?_
        refine AW.cond rfl (fun c2 => ?_) (fun c2 => ?_)
        · skip
          refine .seq <|
            .region <|
            .aB rfl rfl <|
            .nil ?_
          refine AW.ret ?_
          exact retQ.mk' (.one _) (VLe.of_eq (congrArg V.bool (by rw [sf_obj hlt (by simpa using c2)]))) (HLe.refl _) ⟨rfl, rfl⟩
        · skip
          refine AW.skip ?_
          refine .region <|
            .ad rfl rfl rfl (by omega) <|
            .mI rfl rfl <|
            .nil ?_
          refine Wk.mk (TLe.put (d := 2) (VLe.refl _) (TLe.put (d := 3) (VLe.refl _) (TLe.put (d := 30) (VLe.refl _) (TLe.put (d := 31) (by exact VLe.of_eq (congrArg (V.int .i64) (by first | rfl | omega))) (TLe.zero _))))) (HLe.refl _) ⟨_, ?_, i + 1, ?_, rfl, rfl, rfl, all_step (p := fun j => decide (objN (a.objs.getD j noObj) = objN (b.objs.getD j noObj))) hj (by simpa using c2)⟩
          · omega
          · omega
      · obtain rfl : i = a.objs.length := by have := of_decide_eq_false c1; omega
        refine AW.exit ?_
        refine .seq <|
          .seq <|
          .region <|
          .mI rfl rfl <|
          .nil <|
          .block ?_
        refine AW.loop (fun n T hh => ∃ (z : Nat) , z ≤ 11 ∧ n = 11 - z ∧ T = put (put (put (T0) 46 (V.int .i64 (z : Nat))) 3 (V.iptr (cState b))) 2 (V.iptr (cState a)) ∧ hh = h' ∧ ∀ j, j < z → intsF (a.lists j) (b.lists j) = true) (11) ?_ ?_
        · skip
          refine Wk.mk (TLe.put (d := 2) (VLe.refl _) (TLe.put (d := 3) (VLe.refl _) (TLe.put (d := 46) (by exact VLe.of_eq (congrArg (V.int .i64) (by first | rfl | omega))) (TLe.zero _)))) (HLe.refl _) ⟨0, Nat.zero_le _, rfl, rfl, rfl, fun j hj => by omega⟩
        · skip
          rintro n T h' ⟨z, hz, rfl, rfl, rfl, hz2⟩
          refine .seq <|
            .region <|
            .ql rfl rfl rfl <|
            .nil <|
            .seq ?_
          refine AW.cond rfl (fun c3 => ?_) (fun c3 => ?_)
          · have hltz : z < 11 := by have := of_decide_eq_true c3; omega
            refine AW.skip ?_
            refine .seq <|
              .block <|
              .seq <|
              .region <|
              .mI rfl rfl <|
              .aI rfl rfl <|
              .nil <|
              .seq ?_
            refine AW.draw [] [] [(0, true), (1, true), (2, true), (3, true), (4, true), (5, true), (6, true), (7, true), (8, true), (9, true)] mixed (by kernel_rfl) rfl (by kernel_rfl) ?_
            refine .q rfl rfl rfl rfl (q_mv rfl (rfl : _ = V.int _ _)) ?_
            refine .q rfl rfl rfl rfl (q_fa_i rfl underlying29 rfl (by exact sizeOf24) (by decide) rfl (rfl : _ = List.drop 1 _)) ?_
            refine .q rfl rfl rfl rfl (q_ia_ai rfl underlying24 sizeOf23 rfl rfl (by omega) (by omega) rfl) ?_
            refine .q rfl rfl rfl rfl (q_load_i1 rfl isAgg23 rfl (lists_at hltz)) ?_
            refine .q rfl rfl rfl rfl (q_mv rfl (rfl : _ = V.int _ _)) ?_
            refine .q rfl rfl rfl rfl (q_fa_i rfl underlying29 rfl (by exact sizeOf24) (by decide) rfl (rfl : _ = List.drop 1 _)) ?_
            refine .q rfl rfl rfl rfl (q_ia_ai rfl underlying24 sizeOf23 rfl rfl (by omega) (by omega) rfl) ?_
            refine .q rfl rfl rfl rfl (q_load_i1 rfl isAgg23 rfl (lists_at hltz)) ?_
            refine .q rfl rfl rfl rfl (QOp.call rfl (by exact call10) fun h' hl' => by exact ints_calls _ _ (hl z) h') ?_
            refine .q rfl rfl rfl rfl (q_not rfl rfl) ?_
            refine AOrd.nil ?_
            refine AW.cond rfl (fun c4 => ?_) (fun c4 => ?_)
            · skip
              refine .seq <|
                .region <|
                .aB rfl rfl <|
                .nil ?_
              refine AW.ret ?_
              exact retQ.mk' (.one _) (VLe.of_eq (congrArg V.bool (by rw [sf_list hltz (by simpa using c4)]))) (HLe.refl _) ⟨rfl, rfl⟩
            · skip
              refine AW.skip ?_
              refine .region <|
                .ad rfl rfl rfl (by omega) <|
                .mI rfl rfl <|
                .nil ?_
              refine Wk.mk (TLe.put (d := 2) (VLe.refl _) (TLe.put (d := 3) (VLe.refl _) (TLe.put (d := 46) (by exact VLe.of_eq (congrArg (V.int .i64) (by first | rfl | omega))) (TLe.zero _)))) (HLe.refl _) ⟨_, ?_, z + 1, ?_, rfl, rfl, rfl, all_step (p := fun j => intsF (a.lists j) (b.lists j)) hz2 (by simpa using c4)⟩
              · omega
              · omega
          · obtain rfl : z = 11 := by have := of_decide_eq_false c3; omega
            refine AW.exit ?_
            refine .seq <|
              .region <|
              .aB rfl rfl <|
              .nil ?_
            refine AW.ret ?_
            exact retQ.mk' (.one _) (VLe.of_eq (congrArg V.bool (by rw [statesF, sf_body c0, all_up.2 hj, all_up.2 hz2]; rfl))) (HLe.refl _) ⟨rfl, rfl⟩

end Go.Proofs.YtijhmlkffkedeaaGreatDoor
/- Walks: the law's fixed fact; rounds again. -/
namespace Go.Proofs.YtijhmlkffkedeaaGreatDoor
open Go Go.AV Go.Proofs.Tryz
set_option maxRecDepth 100000
set_option maxHeartbeats 1000000
def aliveO : Obj := fun f => match f with | 0 => 10 | 3 => 8 | 6 => 1 | _ => 0
def aliveSt : St := ⟨[aliveO], fun z => if z = 8 then [0] else [], fun _ f => if f = 0 then 1 else 0, fun _ => 0⟩
theorem sz_of {s : St} (h : checkF s = 0) (hf : Few s) : Sz s := by
  obtain ⟨a, b, c, d⟩ := right_parts h
  refine ⟨a, ?_, hf, fun i => ?_⟩
  · simp only [zonesF, Bool.and_eq_true, decide_eq_true_eq] at c; omega
  · by_cases hi : i < s.objs.length
    · exact right_obj b hi 3 (by decide)
    · rw [List.getD_eq_getElem?_getD, List.getElem?_eq_none (by omega)]; exact ⟨by decide, by decide⟩
theorem new_eq (s : St) : newF s [] = ⟨s, [], [], [], checkF s⟩ := by
  have e : randF [] = 0 := rfl
  unfold newF Em.fail
  rw [e]; split
  · rename_i h
    have h : checkF s = 0 := h
    rw [h]
  · rfl
theorem new_p {s : St} (hf : Few s) : EmP (newF s []) := by
  rw [new_eq]
  exact ⟨⟨fun e => sz_of e hf, by simp⟩, by simp⟩
/-- A new emitter, without draws. -/
theorem new_nil (s : St) (hb : s.objs.length ≤ 1000000) (hl : ∀ z, (s.lists z).length ≤ 1000000) (h : Hp) : ACalls prog G 15 [eState s, .snil] h fun r h' => ∃ id, r = .ptr id 0 ∧ EmAt h id (newF s []) h' :=
  .args (bs := [eState s, eInts []]) rfl (fun j => match j with | 0 => .refl _ | 1 => .nilimm | _ + 2 => .refl _) (new_calls s [] hb hl (by simp) h)
def alive0 : Em := newF aliveSt []
theorem long_no {s : St} (hf : Few s) (h : longF s 40 = false) : s.objs.length ≤ 40 ∧ ∀ z, (s.lists z).length ≤ 50 := by
  simp only [longF, Bool.or_eq_false_iff, decide_eq_false_iff_not, List.any_eq_false, List.mem_range] at h
  refine ⟨by omega, fun z => ?_⟩
  by_cases hz : z < 11
  · have := h.2 z hz; simp at this; omega
  · rw [hf z (by omega)]; simp
theorem long_hb {s : St} (hf : Few s) (h : longF s 40 = false) : s.objs.length ≤ 1000000 ∧ ∀ z, (s.lists z).length ≤ 1000000 := by
  obtain ⟨a, b⟩ := long_no hf h
  exact ⟨by omega, fun z => by have := b z; omega⟩
end Go.Proofs.YtijhmlkffkedeaaGreatDoor
/- What a row's own list of variables gives the walk; a witness for rows over a state. -/
namespace Go.Proofs.YtijhmlkffkedeaaGreatDoor
open Go Go.AV Go.Proofs.Tryz Go.ChangeShapes Go.WideShapes Go.ChangeAt Go.RowKit
set_option maxRecDepth 100000
theorem own : ownKnob prog.godebug = none := by kernel_rfl
theorem laidOut : laidOutB prog = true := by kernel_rfl
/-- The variables that every row of this seat lists. -/
def laidL : List (String × DataW Unit) := [("mulligan/state.any", Rows.laid_mulligan_state_any), ("mulligan/state.flag", Rows.laid_mulligan_state_flag), ("mulligan/state.resting", Rows.laid_mulligan_state_resting)]
theorem tab_pair {P : Program} {W : World} {name : String} {a b : Int} {rest : List (String × DataW Unit)} {g : Nat} {t e : TypeId} {f0 f1 : Field}
    (hg : P.globalNamed name = some g) (hty : (P.globals[g]?).map (·.type) = some t) (ht : P.underlying t = some (.struct #[f0, f1])) (h0 : f0.offset = 0 ∧ f0.type = e) (h1 : f1.offset = 1 ∧ f1.type = e) (he : P.underlying e = some (.int .i64)) (hce : P.cellsOf e = 1) (hct : P.cellsOf t = 2)
    (h : laidMet P ((name, .agg [.lit (.int .i64 a), .lit (.int .i64 b)]) :: rest) W) : Lib.TabIs P W name .i64 [a, b] := by
  obtain ⟨ps, ⟨g', t', cs, fuel, p, q, hg', ht', hvar, hd, _, _⟩, _⟩ := h
  obtain rfl := Option.some.inj (hg.symm.trans hg')
  obtain rfl := Option.some.inj (hty.symm.trans ht')
  unfold Lib.TabIs
  obtain ⟨xs, k, _, hx, hl, hxl, hread⟩ := DataW.trod_struct ht hd
  have r0 := hread 0 f0 rfl
  have r1 := hread 1 f1 rfl
  have hm : xs.map (·.1) = [.lit (.int .i64 a), .lit (.int .i64 b)] := by
    have := congrArg Prod.fst hx
    exact (DataW.agg.inj this).symm
  match xs, hm with
  | [x0, x1], hm =>
    simp only [List.map_cons, List.map_nil, List.cons.injEq, and_true] at hm
    rw [h0.1, h0.2, hce] at r0
    rw [h1.1, h1.2, hce] at r1
    obtain ⟨n0, c0, e0, _⟩ := DataW.trod_int he r0
    obtain ⟨n1, c1, e1, _⟩ := DataW.trod_int he r1
    subst e0 e1
    obtain ⟨hm0, hm1⟩ := hm
    obtain rfl : n0 = a := by injection hm0 with hm0; injection hm0
    obtain rfl : n1 = b := by injection hm1 with hm1; injection hm1
    rw [hct] at hl
    rw [hvar]
    obtain ⟨cl⟩ := cs
    match cl, hl, c0, c1 with
    | [u, v], _, c0, c1 =>
      obtain rfl : u = .int .i64 n0 := by simpa using c0
      obtain rfl : v = .int .i64 n1 := by simpa using c1
      rfl
theorem vars_ok {W : World} (h : laidMetH prog laidL W) : ∀ g cs, G g = some cs → Rep (E0 W) (.pointer (some ⟨g, 0, none⟩)) (.iptr cs) := by
  have m1 : laidMetH prog [("mulligan/state.any", Rows.laid_mulligan_state_any)] W := by
    have := laidMetH.filter (fun x => x.1 == "mulligan/state.any") h
    rwa [show laidL.filter (fun x => x.1 == "mulligan/state.any") = [("mulligan/state.any", Rows.laid_mulligan_state_any)] by simp [laidL]] at this
  have t1 : Lib.TabIs prog W "mulligan/state.any" .i64 [-1073741824, 1073741824] := tab_pair (rest := []) (g := 2) (t := 144) (by kernel_rfl) (by kernel_rfl) underlying144 ⟨rfl, rfl⟩ ⟨rfl, rfl⟩ underlying3 (by kernel_rfl) (by kernel_rfl) m1
  have m2 : laidMetH prog [("mulligan/state.flag", Rows.laid_mulligan_state_flag)] W := by
    have := laidMetH.filter (fun x => x.1 == "mulligan/state.flag") h
    rwa [show laidL.filter (fun x => x.1 == "mulligan/state.flag") = [("mulligan/state.flag", Rows.laid_mulligan_state_flag)] by simp [laidL]] at this
  have t2 : Lib.TabIs prog W "mulligan/state.flag" .i64 [0, 1] := tab_pair (rest := []) (g := 1) (t := 144) (by kernel_rfl) (by kernel_rfl) underlying144 ⟨rfl, rfl⟩ ⟨rfl, rfl⟩ underlying3 (by kernel_rfl) (by kernel_rfl) m2
  have m3 : laidMetH prog [("mulligan/state.resting", Rows.laid_mulligan_state_resting)] W := by
    have := laidMetH.filter (fun x => x.1 == "mulligan/state.resting") h
    rwa [show laidL.filter (fun x => x.1 == "mulligan/state.resting") = [("mulligan/state.resting", Rows.laid_mulligan_state_resting)] by simp [laidL]] at this
  have t3 : Lib.TabIs prog W "mulligan/state.resting" .i64 [4, 5, 6, 7, 8, 9, 10, 11, 12] := Lib.tabIs_of_head (rest := []) (g := 0) (t := 25) (by kernel_rfl) (by kernel_rfl) underlying25 underlying3 (by kernel_rfl) (by kernel_rfl) m3

  have go : ∀ (g : Nat) (zs : List Int), (∀ i, i < zs.length → W.cell? ⟨g, i, none⟩ = some (.int .i64 (zs.getD i 0))) → Rep (E0 W) (.pointer (some ⟨g, 0, none⟩)) (.iptr (zs.map (V.int .i64))) := fun g zs hz =>
    rep_var fun j hj => by have := hz j hj; rwa [List.getD_eq_getElem?_getD, List.getElem?_eq_getElem hj] at this
  intro g cs hg
  unfold G at hg
  cases e1 : Nat.beq g 2 with
  | true => rw [e1] at hg; obtain rfl := Option.some.inj hg; obtain rfl := Nat.eq_of_beq_eq_true e1; exact go _ [-1073741824, 1073741824] fun i hi => t1.cell (by kernel_rfl) i hi
  | false =>
    cases e2 : Nat.beq g 1 with
    | true => rw [e1, e2] at hg; obtain rfl := Option.some.inj hg; obtain rfl := Nat.eq_of_beq_eq_true e2; exact go _ [0, 1] fun i hi => t2.cell (by kernel_rfl) i hi
    | false =>
      cases e3 : Nat.beq g 0 with
      | true => rw [e1, e2, e3] at hg; obtain rfl := Option.some.inj hg; obtain rfl := Nat.eq_of_beq_eq_true e3; exact go _ [4, 5, 6, 7, 8, 9, 10, 11, 12] fun i hi => t3.cell (by kernel_rfl) i hi
      | false =>
        rw [e1, e2, e3] at hg; cases hg

def nil0 : Value := .slice none 0 0
def state0 : Value := .agg (((List.replicate 12 nil0) ++ List.replicate 25 (Value.int .i64 0)).toArray)
def state0D {H : Type} : DataW H := .agg [.nil, .agg (List.replicate 11 .nil), .agg (List.replicate 2 (.agg (List.replicate 9 (.lit (.int .i64 0))))), .agg (List.replicate 7 (.lit (.int .i64 0)))]
def putCells (h : Array Go.Obj) (g : Nat) (l : List Int) : Array Go.Obj := h.modify g fun
  | Go.Obj.cells _ t frozen => Go.Obj.cells (l.map (Value.int .i64)).toArray t frozen
  | o => o
noncomputable def laidWorld (os : Os) : World :=
  { World.holding prog os ⟨#[], #[], []⟩ with heap := putCells (putCells (putCells (World.holding prog os ⟨#[], #[], []⟩).heap 2 [-1073741824, 1073741824]) 1 [0, 1]) 0 [4, 5, 6, 7, 8, 9, 10, 11, 12] }
end Go.Proofs.YtijhmlkffkedeaaGreatDoor
/- Walks: the document's cards: their parts. -/
namespace Go.Proofs.YtijhmlkffkedeaaGreatDoor
open Go Go.AV Go.Proofs.Tryz
set_option maxRecDepth 100000
set_option maxHeartbeats 1000000
theorem bx_acc {h0 : Hp} {id n len : Nat} {cs bc : List V} {v : V} (a : AccV n len cs v) (f : vFresh v h0) (fi : (addTok v h0).fresh id) : Go.AV.Acc (h0.setBox id bc) n len cs v ((addTok v h0).setBox id bc) := by
  refine acc_iff.2 ⟨a, ?_, (addTok_setBox _ _ _ _).symm⟩
  have h2 := fi.2
  unfold vFresh at *
  split
  · rename_i t n len c
    simp only [addTok] at h2
    have hne : t ≠ id := fun e => by subst e; simp at h2
    exact ⟨by rw [Hp.box_setBox_ne _ _ hne]; exact f.1, f.2⟩
  · trivial
theorem bx_app {h0 h' : Hp} {id n len : Nat} {cs bc : List V} {v : V} (hid : h0.fresh id) (acc : Go.AV.Acc (h0.setBox id bc) n len cs v h') :
    h'.box id = some bc ∧ (v.cells = [v] ∧ v.solid = true) ∧ (∀ c2, h'.setBox id c2 = (addTok v h0).setBox id c2) ∧ AccV n len cs v ∧ vFresh v h0 ∧ (addTok v h0).fresh id := by
  obtain ⟨a, f, rfl⟩ := acc_iff.1 acc
  have fe : vFresh v h0 ∧ (addTok v h0).tok id = none := by
    unfold vFresh addTok at *
    split
    · rename_i t n len c
      simp only at f
      have hne : t ≠ id := fun e => by subst e; have := f.1; simp at this
      exact ⟨⟨by have := f.1; rwa [Hp.box_setBox_ne _ _ hne] at this, f.2⟩, by rw [Hp.tok_setTok_ne _ _ hne.symm]; exact hid.2⟩
    · exact ⟨trivial, hid.2⟩
  refine ⟨by rw [addTok_box, Hp.box_setBox], a.cells, fun c2 => by rw [addTok_setBox, Hp.setBox_setBox], a, fe.1, ⟨by rw [addTok_box]; exact hid.1, fe.2⟩⟩
def giveF (n c : Int) : Abil := ⟨6, fun _ => 0, true, 0, ⟨15, n, c, 0, []⟩⟩
def subAt (row : List Int) (q : Nat) : Eff0 := ⟨row.getD (4 + 4 * q) 0, row.getD (4 + 4 * q + 1) 0, row.getD (4 + 4 * q + 2) 0, row.getD (4 + 4 * q + 3) 0⟩
def subsUp (row : List Int) (q : Nat) : List Eff0 := (List.range q).map (subAt row)
/-- An effect, out of a row of numbers. -/
def effR (row : List Int) : Eff := ⟨row.getD 0 0, row.getD 1 0, row.getD 2 0, row.getD 3 0, subsUp row ((row.length - 4) / 4)⟩
def cEffN (e : Eff0) : List V := [.int .i64 e.op, .int .i64 e.n, .int .i64 e.m, .int .i64 e.who, .snil]
theorem subs_next {row : List Int} {q : Nat} : (subsUp row (q + 1)).flatMap cEffN = (subsUp row q).flatMap cEffN ++ cEffN (subAt row q) := by
  simp [subsUp, List.range_succ]
theorem subs_len {row : List Int} {q : Nat} : (subsUp row q).length = q := by simp [subsUp]
theorem eff0_le {e : Eff0} : LLe (cEffN e) (cEff0 e) := .cons (.refl _) (.cons (.refl _) (.cons (.refl _) (.cons (.refl _) (.cons .nilimm .nil))))
theorem effs_le : ∀ l : List Eff0, LLe (l.flatMap cEffN) (l.flatMap cEff0)
  | [] => .nil
  | e :: l => LLe.append (eff0_le (e := e)) (effs_le l)

theorem refGive_calls (n c : Int) (h : Hp) : ACalls prog G 128 [.int .i64 n, .int .i64 c] h fun r h' => r = eAbil (giveF n c) ∧ h' = h := by
  refine ACalls.enter func128 rfl ntmps128 results128 rfl ?_
  refine .seq <|
    .region ?_
  refine AOps.s rfl rfl rfl (a_alloc rfl zeroValue159 rfl (fun id4 hid4 => ?_))
  refine .nil <|
    .seq <|
    .region <|
    .mI rfl rfl <|
    .mI rfl rfl ?_
  refine .u rfl rfl rfl (q_buildS (ds := [.int .i64 15, .int .i64 n, .int .i64 c, .int .i64 0, .snil]) rfl zeroValue118 underlying118 (pl118 underlying118) rfl (by kernel_rfl)) ?_
  refine .u rfl rfl rfl (q_buildS (ds := [.int .i64 6, .int .i64 0, .int .i64 0, .int .i64 0, .int .i64 0, .int .i64 0, .int .i64 0, .bool true, .int .i64 0, .int .i64 15, .int .i64 n, .int .i64 c, .int .i64 0, .snil]) rfl zeroValue159 underlying159 (pl159 underlying159) rfl (by kernel_rfl)) ?_
  refine .sw sizeOf159 rfl rfl rfl rfl <|
    .nil ?_
  refine AW.ret ?_
  exact retQ.mk' (Res.cellB isAgg159 sizeOf159 rfl (by exact bsb) rfl) (LLe.agg (LLe.append (a := [.int .i64 6, .int .i64 0, .int .i64 0, .int .i64 0, .int .i64 0, .int .i64 0, .int .i64 0, .bool true, .int .i64 0, .int .i64 15, .int .i64 n, .int .i64 c, .int .i64 0]) (.refl _) (.cons .nilimm .nil))) (HLe.setBox hid4.1) ⟨rfl, rfl⟩

theorem refEffect_calls (row : List Int) (k : SK) (hr : 4 ≤ row.length ∧ row.length ≤ 100 ∧ (row.length - 4) % 4 = 0) (h : Hp) : ACalls prog G 130 [.sl k 1 row.length (cInts row)] h fun r h' => r = eEff (effR row) ∧ h' = h := by
  obtain ⟨J, hJ⟩ : ∃ J, J = (row.length - 4) / 4 := ⟨_, rfl⟩
  have hlen : row.length = 4 + 4 * J := by omega
  refine ACalls.enter func130 rfl ntmps130 results130 rfl ?_
  refine .seq <|
    .region ?_
  refine AOps.s rfl rfl rfl (a_alloc rfl zeroValue118 rfl (fun id2 hid2 => ?_))
  refine .nil <|
    .seq ?_
  refine AW.draw [14] [] [(0, true), (1, true), (2, true), (3, true), (4, true), (5, true), (6, true), (7, true), (8, true), (9, true), (10, true), (11, true), (12, true), (13, false), (14, false)] mixed (by kernel_rfl) rfl (by kernel_rfl) ?_
  refine .q rfl rfl rfl rfl (q_mv rfl (rfl : _ = V.sl _ _ _ _)) ?_
  refine .q rfl rfl rfl rfl (q_ia_s rfl underlying23 sizeOf3 rfl rfl (by omega) (by omega) (cInts_elem (by omega) (by omega))) ?_
  refine .q rfl rfl rfl rfl (q_load_i1 rfl isAgg3 rfl rfl) ?_
  refine .q rfl rfl rfl rfl (q_mv rfl (rfl : _ = V.sl _ _ _ _)) ?_
  refine .q rfl rfl rfl rfl (q_ia_s rfl underlying23 sizeOf3 rfl rfl (by omega) (by omega) (cInts_elem (by omega) (by omega))) ?_
  refine .q rfl rfl rfl rfl (q_load_i1 rfl isAgg3 rfl rfl) ?_
  refine .q rfl rfl rfl rfl (q_mv rfl (rfl : _ = V.sl _ _ _ _)) ?_
  refine .q rfl rfl rfl rfl (q_ia_s rfl underlying23 sizeOf3 rfl rfl (by omega) (by omega) (cInts_elem (by omega) (by omega))) ?_
  refine .q rfl rfl rfl rfl (q_load_i1 rfl isAgg3 rfl rfl) ?_
  refine .q rfl rfl rfl rfl (q_mv rfl (rfl : _ = V.sl _ _ _ _)) ?_
  refine .q rfl rfl rfl rfl (q_ia_s rfl underlying23 sizeOf3 rfl rfl (by omega) (by omega) (cInts_elem (by omega) (by omega))) ?_
  refine .q rfl rfl rfl rfl (q_load_i1 rfl isAgg3 rfl rfl) ?_
  refine .q rfl rfl rfl rfl (q_buildS (ds := [V.int .i64 (row.getD 0 0), V.int .i64 (row.getD 1 0), V.int .i64 (row.getD 2 0), V.int .i64 (row.getD 3 0), V.snil]) rfl zeroValue118 underlying118 (pl118 underlying118) rfl (by kernel_rfl)) ?_
  refine AOrd.s' rfl rfl rfl (a_alloc rfl zeroValue118 rfl (fun id3 hid3 => ⟨?_, HLe.setBox hid3.1⟩))
  refine AOrd.s0 rfl rfl rfl rfl (a_storeA rfl sizeOf118 rfl (by exact bsb) (rfl : _ = V.agg _) rfl (by first | decide | exact Nat.le_of_ble_eq_true rfl) ?_)
  refine AOrd.nil ?_
  refine .seq <|
    .seq <|
    .region <|
    .aI rfl rfl <|
    .nil <|
    .block ?_
  refine AW.loop (fun n T hh => ∃ (q : Nat) (v : V), q ≤ J ∧ n = J - q ∧ T = put (put (put (put (T0) 4 (V.int .i64 (4 + 4 * (q : Nat)))) 3 (V.ptr id3 0)) 2 (V.ptr id2 0)) 0 (V.sl k 1 row.length (cInts row)) ∧ (AccV 5 q ((subsUp row q).flatMap cEffN) v ∧ vFresh v (h.setBox id2 [V.int .i64 0, V.int .i64 0, V.int .i64 0, V.int .i64 0, V.snil]) ∧ (addTok v (h.setBox id2 [V.int .i64 0, V.int .i64 0, V.int .i64 0, V.int .i64 0, V.snil])).fresh id3) ∧ hh = (addTok v (h.setBox id2 [V.int .i64 0, V.int .i64 0, V.int .i64 0, V.int .i64 0, V.snil])).setBox id3 [V.int .i64 (row.getD 0 0), V.int .i64 (row.getD 1 0), V.int .i64 (row.getD 2 0), V.int .i64 (row.getD 3 0), v]) (J) ?_ ?_
  · skip
    refine Wk.mk (TLe.put (d := 0) (VLe.refl _) (TLe.put (d := 2) (VLe.refl _) (TLe.put (d := 3) (VLe.refl _) (TLe.put (d := 4) (by exact VLe.of_eq (congrArg (V.int .i64) (by first | rfl | omega))) (TLe.zero _))))) (HLe.refl _) ⟨0, V.snil, Nat.zero_le _, rfl, rfl, ⟨⟨⟨rfl, .inl ⟨rfl, rfl, rfl⟩⟩, trivial, hid3⟩, by rw [Hp.setBox_setBox]; rfl⟩⟩
  · skip
    rintro n T h' ⟨q, v, hq, rfl, rfl, ⟨⟨ha, hf, hfi⟩, rfl⟩⟩
    refine .seq <|
      .seq <|
      .region <|
      .mI rfl rfl <|
      .mS rfl rfl <|
      .ln rfl underlying23 rfl <|
      .ql rfl rfl rfl <|
      .nil ?_
    refine AW.cond rfl (fun c0 => ?_) (fun c0 => ?_)
    · have hltq : q < J := by have := of_decide_eq_true c0; omega
      refine AW.skip ?_
      refine .seq <|
        .block ?_
      refine AW.draw [23, 25] [0, 2, 3, 4, 5, 6, 7, 8, 9, 10, 11, 12, 13, 14, 15, 16, 17, 18, 19, 20] [(0, true), (1, true), (2, true), (3, true), (4, true), (5, true), (6, true), (7, true), (8, true), (9, true), (10, true), (11, true), (12, true), (13, true), (14, true), (15, true), (16, true), (17, true), (18, true), (19, true), (20, true), (21, false), (22, true), (23, false), (24, true), (25, false)] mixed (by kernel_rfl) rfl (by kernel_rfl) ?_
      refine .p rfl rfl rfl (fun _ => q_fa_b rfl underlying118 rfl (by exact sizeOf116) (by decide) rfl (rfl : _ = 4)) ?_
      refine .q rfl rfl rfl rfl (q_load_b1 rfl isAgg116 rfl (by exact bsb) rfl) ?_
      refine .p rfl rfl rfl (fun _ => q_mv rfl (rfl : _ = V.sl _ _ _ _)) ?_
      refine .p rfl rfl rfl (fun _ => q_mv rfl (rfl : _ = V.int _ _)) ?_
      refine .p rfl rfl rfl (fun _ => q_ia_s rfl underlying23 sizeOf3 rfl rfl (by omega) (by omega) (cInts_elem (by omega) (by omega))) ?_
      refine .p rfl rfl rfl (fun _ => q_load_i1 rfl isAgg3 rfl rfl) ?_
      refine .p rfl rfl rfl (fun _ => q_mv rfl (rfl : _ = V.sl _ _ _ _)) ?_
      refine .p rfl rfl rfl (fun _ => q_mv rfl (rfl : _ = V.int _ _)) ?_
      refine .p rfl rfl rfl (fun _ => q_add' rfl rfl rfl (by omega)) ?_
      refine .p rfl rfl rfl (fun _ => q_ia_s rfl underlying23 sizeOf3 rfl rfl (by omega) (by omega) (cInts_elem (by omega) (by omega))) ?_
      refine .p rfl rfl rfl (fun _ => q_load_i1 rfl isAgg3 rfl rfl) ?_
      refine .p rfl rfl rfl (fun _ => q_mv rfl (rfl : _ = V.sl _ _ _ _)) ?_
      refine .p rfl rfl rfl (fun _ => q_mv rfl (rfl : _ = V.int _ _)) ?_
      refine .p rfl rfl rfl (fun _ => q_add' rfl rfl rfl (by omega)) ?_
      refine .p rfl rfl rfl (fun _ => q_ia_s rfl underlying23 sizeOf3 rfl rfl (by omega) (by omega) (cInts_elem (by omega) (by omega))) ?_
      refine .p rfl rfl rfl (fun _ => q_load_i1 rfl isAgg3 rfl rfl) ?_
      refine .p rfl rfl rfl (fun _ => q_mv rfl (rfl : _ = V.sl _ _ _ _)) ?_
      refine .p rfl rfl rfl (fun _ => q_mv rfl (rfl : _ = V.int _ _)) ?_
      refine .p rfl rfl rfl (fun _ => q_add' rfl rfl rfl (by omega)) ?_
      refine .p rfl rfl rfl (fun _ => q_ia_s rfl underlying23 sizeOf3 rfl rfl (by omega) (by omega) (cInts_elem (by omega) (by omega))) ?_
      refine .p rfl rfl rfl (fun _ => q_load_i1 rfl isAgg3 rfl rfl) ?_
      refine AOrd.qf rfl rfl rfl (q_buildS (ds := (cEffN (subAt row q))) rfl zeroValue118 underlying118 (pl118 underlying118) rfl (by kernel_rfl)) ?_
      refine .q rfl rfl rfl rfl (q_buildSl (ds := (cEffN (subAt row q))) rfl underlying116 sizeOf118 zeroValue118 rfl rfl rfl rfl (by kernel_rfl)) ?_
      refine AOrd.s rfl rfl rfl rfl (a_append rfl underlying116 (i := t118) (by kernel_rfl) rfl (n := 5) (by' := 56) rfl rfl rfl rfl (bx_acc (v := v) (h0 := h.setBox id2 [V.int .i64 0, V.int .i64 0, V.int .i64 0, V.int .i64 0, V.snil]) (id := id3) (bc := [V.int .i64 (row.getD 0 0), V.int .i64 (row.getD 1 0), V.int .i64 (row.getD 2 0), V.int .i64 (row.getD 3 0), v]) ha hf hfi) rfl rfl (by decide) (by show (q + 1) * 56 ≤ _; omega) (by show q + 1 ≤ _; omega) rfl (fun v3 h3 acc => ?_))
      obtain ⟨hb3, hc3, hs3, ha3, hf3, hfi3⟩ := bx_app hid3 acc
      refine .q rfl rfl rfl rfl (q_fa_b rfl underlying118 rfl (by exact sizeOf116) (by decide) rfl (rfl : _ = 4)) ?_
      refine AOrd.s0 rfl rfl rfl rfl (a_store1 rfl sizeOf116 rfl (by exact hb3) (rfl : _ = v3) hc3.1 hc3.2 (by exact Nat.le_of_ble_eq_true rfl) ?_)
      refine AOrd.nil ?_
      refine .region <|
        .mI rfl rfl <|
        .ad rfl rfl rfl (by omega) <|
        .aI rfl rfl <|
        .nil ?_
      refine Wk.mk (TLe.put (d := 0) (VLe.refl _) (TLe.put (d := 2) (VLe.refl _) (TLe.put (d := 3) (VLe.refl _) (TLe.put (d := 4) (by exact VLe.of_eq (congrArg (V.int .i64) (by first | rfl | omega))) (TLe.zero _))))) (HLe.refl _) ⟨_, ?_, q + 1, _, ?_, rfl, rfl, ⟨⟨by rw [subs_next]; exact ha3, hf3, hfi3⟩, hs3 _⟩⟩
      · omega
      · omega
    · obtain rfl : q = J := by have := of_decide_eq_false c0; omega
      have n32 : id3 ≠ id2 := (fresh_ne hid3).symm
      refine AW.exit ?_
      refine .seq <|
        .region ?_
      refine .u rfl rfl rfl (q_load_bW rfl isAgg118 sizeOf118 (by decide) rfl (by exact bsb) (by rfl)) ?_
      refine AOps.s0 rfl rfl (a_storeA rfl sizeOf118 rfl (by exact box_under n32 (by rw [addTok_box]; exact Hp.box_setBox _ _ _)) (rfl : _ = V.agg _) rfl (by first | decide | exact Nat.le_of_ble_eq_true rfl) ?_)
      refine .nil ?_
      refine AW.ret ?_
      exact retQ.mk' (Res.cellB isAgg118 sizeOf118 rfl (by exact bsb) rfl) (LLe.agg (.cons (.refl _) (.cons (.refl _) (.cons (.refl _) (.cons (.refl _) (.cons (by rw [effR, ← hJ, subs_len]; exact ha.imm.trans (effs_le _).sl) .nil)))))) (HLe.over (HLe.over ((addTok_le hf).trans (HLe.setBox hid2.1)) (none_of hid3.1)) hid2.1) ⟨rfl, rfl⟩

end Go.Proofs.YtijhmlkffkedeaaGreatDoor
/- Walks: the document's cards: abilities and rows of numbers. -/
namespace Go.Proofs.YtijhmlkffkedeaaGreatDoor
open Go Go.AV Go.Proofs.Tryz
set_option maxRecDepth 100000
set_option maxHeartbeats 1000000
theorem cInts_to {l : List Int} {i : Int} (j : Nat) (e : i.toNat = j) (h0 : 0 ≤ i) (h1 : i < l.length) : ((cInts l).drop (i.toNat * 1)).take 1 = [.int .i64 (l.getD j 0)] := e ▸ cInts_elem h0 h1
def cRows (l : List (List Int)) : List V := l.map fun r => .sl .full 1 r.length (cInts r)
theorem cRows_elem {l : List (List Int)} {i : Int} (h0 : 0 ≤ i) (h1 : i < l.length) : ((cRows l).drop (i.toNat * 1)).take 1 = [.sl .full 1 (l.getD i.toNat []).length (cInts (l.getD i.toNat []))] := by
  obtain ⟨n, rfl⟩ := Int.eq_ofNat_of_zero_le h0
  have hn : n < l.length := by omega
  simp only [cRows, Int.toNat_natCast, Nat.mul_one]
  rw [List.drop_eq_getElem_cons (by simpa using hn)]
  simp [List.getD_eq_getElem?_getD, List.getElem?_eq_getElem hn]
theorem q_sliceI {P : Program} {G : Nat → Option (List V)} {h : Hp} {o : Oper} {ρ : Operand → V} {t e : TypeId} {x lo : Operand} (ho : o.op = .slice t x (some lo) none none) (hu : P.underlying t = some (.slice e)) (hs : ∀ w, (sizeOf e).run P w = .ok 1 w) {k : SK} {l : Nat} {row : List Int} (hx : ρ x = .sl k 1 row.length (cInts row)) (hlo : ρ lo = .int .i64 (l : Int)) (hl : l ≤ row.length) :
    QOp P G h o ρ (.sl .imm 1 (row.drop l).length (cInts (row.drop l))) := by
  have := q_sliceS (P := P) (G := G) (h := h) ho hu hs hx hlo hl
  rwa [show (cInts row).drop (l * 1) = cInts (row.drop l) by simp [cInts, List.map_drop], ← List.length_drop] at this
def oneCost (c n : Int) : Cost := fun j => if (j : Int) = c then n else 0
theorem abil_set {w c n tg : Int} {tap : Bool} {e : Eff} (h0 : 0 ≤ c) (h1 : c < 6) : splice (cAbil ⟨w, noCost, tap, tg, e⟩) (1 + c.toNat * 1) [.int .i64 n] = cAbil ⟨w, oneCost c n, tap, tg, e⟩ := by
  obtain ⟨k, rfl⟩ := Int.eq_ofNat_of_zero_le h0
  have : k = 0 ∨ k = 1 ∨ k = 2 ∨ k = 3 ∨ k = 4 ∨ k = 5 := by omega
  rcases this with e | e | e | e | e | e <;> subst e <;> rfl
/-- An ability, out of a row of numbers. -/
def abilR (row : List Int) : Abil := ⟨row.getD 0 0, if 0 ≤ row.getD 1 0 then oneCost (row.getD 1 0) 1 else noCost, row.getD 2 0 == 1, row.getD 3 0, effR (row.drop 4)⟩

theorem refAbility_calls (row : List Int) (k : SK) (hr : 8 ≤ row.length ∧ row.length ≤ 50 ∧ (row.length - 8) % 4 = 0 ∧ row.getD 1 0 < 6) (h : Hp) : ACalls prog G 131 [.sl k 1 row.length (cInts row)] h fun r h' => r = eAbil (abilR row) ∧ h' = h := by
  refine ACalls.enter func131 rfl ntmps131 results131 rfl ?_
  refine .seq <|
    .region ?_
  refine AOps.s rfl rfl rfl (a_alloc rfl zeroValue159 rfl (fun id2 hid2 => ?_))
  refine .nil <|
    .seq ?_
  refine AW.draw [15] [] [(0, true), (1, true), (2, true), (3, true), (4, true), (5, true), (6, true), (7, true), (8, true), (9, true), (10, true), (11, true), (12, true), (13, true), (14, false), (15, false)] mixed (by kernel_rfl) rfl (by kernel_rfl) ?_
  refine .q rfl rfl rfl rfl (q_mv rfl (rfl : _ = V.sl _ _ _ _)) ?_
  refine .q rfl rfl rfl rfl (q_ia_s rfl underlying23 sizeOf3 rfl rfl (by omega) (by omega) (cInts_to 0 rfl (by omega) (by omega))) ?_
  refine .q rfl rfl rfl rfl (q_load_i1 rfl isAgg3 rfl rfl) ?_
  refine .q rfl rfl rfl rfl (q_mv rfl (rfl : _ = V.sl _ _ _ _)) ?_
  refine .q rfl rfl rfl rfl (q_ia_s rfl underlying23 sizeOf3 rfl rfl (by omega) (by omega) (cInts_to 2 rfl (by omega) (by omega))) ?_
  refine .q rfl rfl rfl rfl (q_load_i1 rfl isAgg3 rfl rfl) ?_
  refine .q rfl rfl rfl rfl (q_eq rfl rfl rfl) ?_
  refine .q rfl rfl rfl rfl (q_mv rfl (rfl : _ = V.sl _ _ _ _)) ?_
  refine .q rfl rfl rfl rfl (q_ia_s rfl underlying23 sizeOf3 rfl rfl (by omega) (by omega) (cInts_to 3 rfl (by omega) (by omega))) ?_
  refine .q rfl rfl rfl rfl (q_load_i1 rfl isAgg3 rfl rfl) ?_
  refine .q rfl rfl rfl rfl (q_mv rfl (rfl : _ = V.sl _ _ _ _)) ?_
  refine .q rfl rfl rfl rfl (q_sliceI (l := 4) rfl underlying23 sizeOf3 rfl rfl (by omega)) ?_
  refine .q rfl rfl rfl rfl (QOp.call rfl (by exact call130) fun h' hl' => by exact refEffect_calls _ _ (by simp only [List.length_drop]; omega) h') ?_
  refine .q rfl rfl rfl rfl (q_buildS (ds := cAbil ⟨row.getD 0 0, noCost, row.getD 2 0 == 1, row.getD 3 0, effR (row.drop 4)⟩) rfl zeroValue159 underlying159 (pl159 underlying159) rfl (by kernel_rfl)) ?_
  refine AOrd.s' rfl rfl rfl (a_alloc rfl zeroValue159 rfl (fun id3 hid3 => ⟨?_, HLe.setBox hid3.1⟩))
  refine AOrd.s0 rfl rfl rfl rfl (a_storeA rfl sizeOf159 rfl (by exact bsb) (rfl : _ = V.agg _) rfl (by first | decide | exact Nat.le_of_ble_eq_true rfl) ?_)
  refine AOrd.nil ?_
  refine .seq <|
    .seq ?_
  refine AW.hp (h' := (h.setBox id2 [.int .i64 0, .int .i64 0, .int .i64 0, .int .i64 0, .int .i64 0, .int .i64 0, .int .i64 0, .bool false, .int .i64 0, .int .i64 0, .int .i64 0, .int .i64 0, .int .i64 0, .snil]).setBox id3 (cAbil ⟨row.getD 0 0, noCost, row.getD 2 0 == 1, row.getD 3 0, effR (row.drop 4)⟩)) (by rw [Hp.setBox_setBox]; rfl) ?_
  refine .region <|
    .mS rfl rfl ?_
  refine .u rfl rfl rfl (q_ia_s rfl underlying23 sizeOf3 rfl rfl (by omega) (by omega) (cInts_to 1 rfl (by omega) (by omega))) ?_
  refine .li rfl isAgg3 rfl rfl <|
    .qg rfl rfl rfl <|
    .nil ?_
  refine AW.cond rfl (fun c0 => ?_) (fun c0 => ?_)
  · have h0 : 0 ≤ row.getD 1 0 := of_decide_eq_true c0
    refine .region <|
      .mS rfl rfl ?_
    refine .u rfl rfl rfl (q_ia_s rfl underlying23 sizeOf3 rfl rfl (by omega) (by omega) (cInts_to 1 rfl (by omega) (by omega))) ?_
    refine .li rfl isAgg3 rfl rfl <|
      .fb rfl f159_1 rfl rfl ?_
    refine .u rfl rfl rfl (q_ia_ab rfl underlying108 sizeOf3 rfl rfl (by omega) (by omega)) ?_
    refine AOps.s0 rfl rfl (a_store1 rfl sizeOf3 rfl (by exact bsb) (rfl : _ = V.int _ _) rfl rfl (by first | decide | exact Nat.le_of_ble_eq_true rfl | (simp only [cAbil, List.length_cons, List.length_nil]; omega)) ?_)
    refine .nil <|
      .seq ?_
    first | refine AW.hp (h' := (h.setBox id2 _).setBox id3 (cAbil (abilR row))) (by rw [abilR, if_pos h0, Hp.setBox_setBox, abil_set h0 hr.2.2.2]) ?_ | refine AW.hp (h' := (h.setBox id2 _).setBox id3 (cAbil (abilR row))) (by rw [abilR, if_neg h0]) ?_
    refine AW.done 3 rfl hid3 ?_
    refine .region <|
      .lw rfl isAgg159 sizeOf159 rfl rfl <|
      .sw sizeOf159 rfl rfl rfl rfl <|
      .nil ?_
    refine AW.ret ?_
    exact retQ.mk' (Res.cellB isAgg159 sizeOf159 rfl (by exact bsb) rfl) (VLe.refl _) (HLe.setBox hid2.1) ⟨rfl, rfl⟩
  · have h0 : ¬ 0 ≤ row.getD 1 0 := of_decide_eq_false c0
    refine AW.skip ?_
    refine .seq ?_
    first | refine AW.hp (h' := (h.setBox id2 _).setBox id3 (cAbil (abilR row))) (by rw [abilR, if_pos h0, Hp.setBox_setBox, abil_set h0 hr.2.2.2]) ?_ | refine AW.hp (h' := (h.setBox id2 _).setBox id3 (cAbil (abilR row))) (by rw [abilR, if_neg h0]) ?_
    refine AW.done 3 rfl hid3 ?_
    refine .region <|
      .lw rfl isAgg159 sizeOf159 rfl rfl <|
      .sw sizeOf159 rfl rfl rfl rfl <|
      .nil ?_
    refine AW.ret ?_
    exact retQ.mk' (Res.cellB isAgg159 sizeOf159 rfl (by exact bsb) rfl) (VLe.refl _) (HLe.setBox hid2.1) ⟨rfl, rfl⟩

def magicRows : List (List Int) := [[0, 2, 4, 0, 0], [4, 9, 0, 0, 2], [1, 10, -2, -2, 2], [3, 1, 2, 0, 2], [1, 10, 3, 3, 2], [1, 6, 0, 0, 2], [0, 4, 2, 0, 0], [2, 19, 1, 0, 2], [1, 1, 4, 0, 2], [1, 11, 2, 0, 2], [0, 20, 1, 0, 0, 10, 1, 1, 2], [5, 7, 0, 0, 2], [2, 3, 3, 0, 2], [1, 10, 3, 0, 2], [1, 23, 64, 0, 2], [5, 8, 0, 0, 2], [0, 17, 3, 0, 0], [0, 21, 0, 0, 0, 3, 2, 0, 1, 2, 2, 0, 0], [0, 20, 0, 0, 0, 1, 2, 0, 2], [0, 14, 2, 116, 0], [0, 21, 0, 0, 0, 2, 2, 0, 0, 4, 1, 0, 0], [1, 12, 0, 0, 2], [1, 6, 0, 0, 2], [0, 1, 3, 0, 4], [0, 15, 3, 4, 0], [0, 22, 0, 10, 0, 2, 8, 0, 0, 4, 1, 0, 0], [0, 21, 0, 0, 0, 4, 3, 0, 0, 19, 1, 0, 0], [0, 5, 4, 0, 4], [3, 21, 0, 0, 0, 1, 2, 0, 2, 4, 1, 0, 0], [0, 20, 1, 0, 0, 11, 1, 0, 2]]
def relicRows8 : List (List Int) := [[5, -1, 0, 0, 20, 1, 0, 0, 10, 0, 2, 2], [5, -1, 0, 0, 20, 1, 0, 0, 23, 1, 0, 2], [5, -1, 0, 0, 20, 2, 0, 0, 10, -1, 0, 2], [5, -1, 0, 0, 20, 1, 0, 0, 10, 1, 0, 2], [5, -1, 0, 0, 20, 1, 0, 0, 10, 1, 1, 2], [4, -1, 0, 0, 2, 1, 0, 0], [4, -1, 0, 0, 17, 1, 0, 0], [4, -1, 0, 0, 3, 1, 0, 4], [4, -1, 0, 0, 1, 1, 0, 1], [4, -1, 0, 0, 15, 1, 4, 0], [1, 5, 1, 1, 10, 0, 1, 2], [1, 5, 1, 1, 12, 0, 0, 2], [1, 5, 1, 0, 3, 1, 0, 1], [1, 5, 1, 3, 1, 1, 0, 2], [1, 5, 1, 1, 13, 0, 0, 2], [5, -1, 0, 0, 20, 0, 0, 0, 25, 1, 0, 2], [1, 1, 0, 0, 13, 0, 0, 3], [5, -1, 0, 0, 20, 2, 0, 0, 24, 1, 1, 2], [3, -1, 0, 0, 1, 3, 0, 4], [2, -1, 0, 0, 14, 1, 119, 0]]
def specialRows : List (List Int) := [[2, 1, 0, 0, 0, 0, 0, -1, 0, 0, 18, 0, 0, 0], [2, 2, 0, 0, 0, 0, 0, -1, 0, 0, 19, 2, 0, 1], [2, 1, 0, 0, 0, 0, 0, -1, 0, 0, 16, 3, 0, 1], [2, 1, 1, 0, 0, 0, 0, -1, 0, 0, 17, 2, 0, 1], [2, 2, 0, 0, 0, 0, 0, -1, 0, 0, 5, 3, 0, 4], [2, 3, 1, 0, 0, 0, 0, -1, 0, 4, 9, 0, 0, 2], [2, 2, 0, 0, 0, 0, 0, -1, 0, 0, 20, 0, 0, 0, 7, 0, 0, 2], [3, 2, 0, 0, 0, 0, 1, -1, 0, 0, 15, 1, 5, 0], [1, 2, 0, 1, 1, 0, 1, 5, 0, 0, 13, 0, 0, 3], [2, 3, 0, 0, 0, 0, 0, -1, 0, 0, 14, 2, 112, 0], [2, 4, 0, 0, 0, 0, 0, -1, 0, 0, 20, 0, 0, 0, 6, 0, 0, 2], [1, 3, 1, 2, 3, 5, 3, -1, 0, 0, 4, 1, 0, 0]]
theorem refMagic_calls (h : Hp) : ACalls prog G 129 [] h fun r h' => r = .sl .full 1 magicRows.length (cRows magicRows) ∧ h' = h := by
  refine ACalls.enter func129 rfl ntmps129 results129 rfl ?_
  refine .seq <|
    .region <|
    .aN rfl rfl <|
    .nil <|
    .seq <|
    .region ?_
  refine .u rfl rfl rfl (q_buildSl rfl underlying23 sizeOf3 zeroValue3 rfl rfl rfl rfl rfl) ?_
  refine .u rfl rfl rfl (q_buildSl rfl underlying23 sizeOf3 zeroValue3 rfl rfl rfl rfl rfl) ?_
  refine .u rfl rfl rfl (q_buildSl rfl underlying23 sizeOf3 zeroValue3 rfl rfl rfl rfl rfl) ?_
  refine .u rfl rfl rfl (q_buildSl rfl underlying23 sizeOf3 zeroValue3 rfl rfl rfl rfl rfl) ?_
  refine .u rfl rfl rfl (q_buildSl rfl underlying23 sizeOf3 zeroValue3 rfl rfl rfl rfl rfl) ?_
  refine .u rfl rfl rfl (q_buildSl rfl underlying23 sizeOf3 zeroValue3 rfl rfl rfl rfl rfl) ?_
  refine .u rfl rfl rfl (q_buildSl rfl underlying23 sizeOf3 zeroValue3 rfl rfl rfl rfl rfl) ?_
  refine .u rfl rfl rfl (q_buildSl rfl underlying23 sizeOf3 zeroValue3 rfl rfl rfl rfl rfl) ?_
  refine .u rfl rfl rfl (q_buildSl rfl underlying23 sizeOf3 zeroValue3 rfl rfl rfl rfl rfl) ?_
  refine .u rfl rfl rfl (q_buildSl rfl underlying23 sizeOf3 zeroValue3 rfl rfl rfl rfl rfl) ?_
  refine .u rfl rfl rfl (q_buildSl rfl underlying23 sizeOf3 zeroValue3 rfl rfl rfl rfl rfl) ?_
  refine .u rfl rfl rfl (q_buildSl rfl underlying23 sizeOf3 zeroValue3 rfl rfl rfl rfl rfl) ?_
  refine .u rfl rfl rfl (q_buildSl rfl underlying23 sizeOf3 zeroValue3 rfl rfl rfl rfl rfl) ?_
  refine .u rfl rfl rfl (q_buildSl rfl underlying23 sizeOf3 zeroValue3 rfl rfl rfl rfl rfl) ?_
  refine .u rfl rfl rfl (q_buildSl rfl underlying23 sizeOf3 zeroValue3 rfl rfl rfl rfl rfl) ?_
  refine .u rfl rfl rfl (q_buildSl rfl underlying23 sizeOf3 zeroValue3 rfl rfl rfl rfl rfl) ?_
  refine .u rfl rfl rfl (q_buildSl rfl underlying23 sizeOf3 zeroValue3 rfl rfl rfl rfl rfl) ?_
  refine .u rfl rfl rfl (q_buildSl rfl underlying23 sizeOf3 zeroValue3 rfl rfl rfl rfl rfl) ?_
  refine .u rfl rfl rfl (q_buildSl rfl underlying23 sizeOf3 zeroValue3 rfl rfl rfl rfl rfl) ?_
  refine .u rfl rfl rfl (q_buildSl rfl underlying23 sizeOf3 zeroValue3 rfl rfl rfl rfl rfl) ?_
  refine .u rfl rfl rfl (q_buildSl rfl underlying23 sizeOf3 zeroValue3 rfl rfl rfl rfl rfl) ?_
  refine .u rfl rfl rfl (q_buildSl rfl underlying23 sizeOf3 zeroValue3 rfl rfl rfl rfl rfl) ?_
  refine .u rfl rfl rfl (q_buildSl rfl underlying23 sizeOf3 zeroValue3 rfl rfl rfl rfl rfl) ?_
  refine .u rfl rfl rfl (q_buildSl rfl underlying23 sizeOf3 zeroValue3 rfl rfl rfl rfl rfl) ?_
  refine .u rfl rfl rfl (q_buildSl rfl underlying23 sizeOf3 zeroValue3 rfl rfl rfl rfl rfl) ?_
  refine .u rfl rfl rfl (q_buildSl rfl underlying23 sizeOf3 zeroValue3 rfl rfl rfl rfl rfl) ?_
  refine .u rfl rfl rfl (q_buildSl rfl underlying23 sizeOf3 zeroValue3 rfl rfl rfl rfl rfl) ?_
  refine .u rfl rfl rfl (q_buildSl rfl underlying23 sizeOf3 zeroValue3 rfl rfl rfl rfl rfl) ?_
  refine .u rfl rfl rfl (q_buildSl rfl underlying23 sizeOf3 zeroValue3 rfl rfl rfl rfl rfl) ?_
  refine .u rfl rfl rfl (q_buildSl rfl underlying23 sizeOf3 zeroValue3 rfl rfl rfl rfl rfl) ?_
  refine .u rfl rfl rfl (q_buildSl (ds := cRows magicRows) rfl underlying178 sizeOf23 zeroValue23 rfl rfl rfl rfl (by kernel_rfl)) ?_
  refine .aS rfl rfl <|
    .nil ?_
  refine AW.ret ?_
  exact retQ.mk (.one _) ⟨rfl, rfl⟩

theorem refRelic_calls (h : Hp) : ACalls prog G 132 [] h fun r h' => r = .sl .full 1 relicRows8.length (cRows relicRows8) ∧ h' = h := by
  refine ACalls.enter func132 rfl ntmps132 results132 rfl ?_
  refine .seq <|
    .region <|
    .aN rfl rfl <|
    .nil <|
    .seq <|
    .region ?_
  refine .u rfl rfl rfl (q_buildSl rfl underlying23 sizeOf3 zeroValue3 rfl rfl rfl rfl rfl) ?_
  refine .u rfl rfl rfl (q_buildSl rfl underlying23 sizeOf3 zeroValue3 rfl rfl rfl rfl rfl) ?_
  refine .u rfl rfl rfl (q_buildSl rfl underlying23 sizeOf3 zeroValue3 rfl rfl rfl rfl rfl) ?_
  refine .u rfl rfl rfl (q_buildSl rfl underlying23 sizeOf3 zeroValue3 rfl rfl rfl rfl rfl) ?_
  refine .u rfl rfl rfl (q_buildSl rfl underlying23 sizeOf3 zeroValue3 rfl rfl rfl rfl rfl) ?_
  refine .u rfl rfl rfl (q_buildSl rfl underlying23 sizeOf3 zeroValue3 rfl rfl rfl rfl rfl) ?_
  refine .u rfl rfl rfl (q_buildSl rfl underlying23 sizeOf3 zeroValue3 rfl rfl rfl rfl rfl) ?_
  refine .u rfl rfl rfl (q_buildSl rfl underlying23 sizeOf3 zeroValue3 rfl rfl rfl rfl rfl) ?_
  refine .u rfl rfl rfl (q_buildSl rfl underlying23 sizeOf3 zeroValue3 rfl rfl rfl rfl rfl) ?_
  refine .u rfl rfl rfl (q_buildSl rfl underlying23 sizeOf3 zeroValue3 rfl rfl rfl rfl rfl) ?_
  refine .u rfl rfl rfl (q_buildSl rfl underlying23 sizeOf3 zeroValue3 rfl rfl rfl rfl rfl) ?_
  refine .u rfl rfl rfl (q_buildSl rfl underlying23 sizeOf3 zeroValue3 rfl rfl rfl rfl rfl) ?_
  refine .u rfl rfl rfl (q_buildSl rfl underlying23 sizeOf3 zeroValue3 rfl rfl rfl rfl rfl) ?_
  refine .u rfl rfl rfl (q_buildSl rfl underlying23 sizeOf3 zeroValue3 rfl rfl rfl rfl rfl) ?_
  refine .u rfl rfl rfl (q_buildSl rfl underlying23 sizeOf3 zeroValue3 rfl rfl rfl rfl rfl) ?_
  refine .u rfl rfl rfl (q_buildSl rfl underlying23 sizeOf3 zeroValue3 rfl rfl rfl rfl rfl) ?_
  refine .u rfl rfl rfl (q_buildSl rfl underlying23 sizeOf3 zeroValue3 rfl rfl rfl rfl rfl) ?_
  refine .u rfl rfl rfl (q_buildSl rfl underlying23 sizeOf3 zeroValue3 rfl rfl rfl rfl rfl) ?_
  refine .u rfl rfl rfl (q_buildSl rfl underlying23 sizeOf3 zeroValue3 rfl rfl rfl rfl rfl) ?_
  refine .u rfl rfl rfl (q_buildSl rfl underlying23 sizeOf3 zeroValue3 rfl rfl rfl rfl rfl) ?_
  refine .u rfl rfl rfl (q_buildSl (ds := cRows relicRows8) rfl underlying178 sizeOf23 zeroValue23 rfl rfl rfl rfl (by kernel_rfl)) ?_
  refine .aS rfl rfl <|
    .nil ?_
  refine AW.ret ?_
  exact retQ.mk (.one _) ⟨rfl, rfl⟩

theorem refSpecial_calls (h : Hp) : ACalls prog G 133 [] h fun r h' => r = .sl .full 1 specialRows.length (cRows specialRows) ∧ h' = h := by
  refine ACalls.enter func133 rfl ntmps133 results133 rfl ?_
  refine .seq <|
    .region <|
    .aN rfl rfl <|
    .nil <|
    .seq <|
    .region ?_
  refine .u rfl rfl rfl (q_buildSl rfl underlying23 sizeOf3 zeroValue3 rfl rfl rfl rfl rfl) ?_
  refine .u rfl rfl rfl (q_buildSl rfl underlying23 sizeOf3 zeroValue3 rfl rfl rfl rfl rfl) ?_
  refine .u rfl rfl rfl (q_buildSl rfl underlying23 sizeOf3 zeroValue3 rfl rfl rfl rfl rfl) ?_
  refine .u rfl rfl rfl (q_buildSl rfl underlying23 sizeOf3 zeroValue3 rfl rfl rfl rfl rfl) ?_
  refine .u rfl rfl rfl (q_buildSl rfl underlying23 sizeOf3 zeroValue3 rfl rfl rfl rfl rfl) ?_
  refine .u rfl rfl rfl (q_buildSl rfl underlying23 sizeOf3 zeroValue3 rfl rfl rfl rfl rfl) ?_
  refine .u rfl rfl rfl (q_buildSl rfl underlying23 sizeOf3 zeroValue3 rfl rfl rfl rfl rfl) ?_
  refine .u rfl rfl rfl (q_buildSl rfl underlying23 sizeOf3 zeroValue3 rfl rfl rfl rfl rfl) ?_
  refine .u rfl rfl rfl (q_buildSl rfl underlying23 sizeOf3 zeroValue3 rfl rfl rfl rfl rfl) ?_
  refine .u rfl rfl rfl (q_buildSl rfl underlying23 sizeOf3 zeroValue3 rfl rfl rfl rfl rfl) ?_
  refine .u rfl rfl rfl (q_buildSl rfl underlying23 sizeOf3 zeroValue3 rfl rfl rfl rfl rfl) ?_
  refine .u rfl rfl rfl (q_buildSl rfl underlying23 sizeOf3 zeroValue3 rfl rfl rfl rfl rfl) ?_
  refine .u rfl rfl rfl (q_buildSl (ds := cRows specialRows) rfl underlying178 sizeOf23 zeroValue23 rfl rfl rfl rfl (by kernel_rfl)) ?_
  refine .aS rfl rfl <|
    .nil ?_
  refine AW.ret ?_
  exact retQ.mk (.one _) ⟨rfl, rfl⟩

end Go.Proofs.YtijhmlkffkedeaaGreatDoor
