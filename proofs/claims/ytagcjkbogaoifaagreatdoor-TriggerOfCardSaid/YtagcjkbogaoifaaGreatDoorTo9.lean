/- Walks: abilities that are put on the stack. -/
import Derived.Test.YtagcjkbogaoifaaGreatDoorTo8
namespace Go.Proofs.YtagcjkbogaoifaaGreatDoor
open Go Go.AV Go.Proofs.Tryz
set_option maxRecDepth 100000
set_option maxHeartbeats 1000000
def isPlayer (p : Int) : Bool := p == 0 || p == 1
def Em.abErr (m : Em) (i n p : Int) : Em := if hasT m.state i n = false then m.fail 4 else if isPlayer p = false then m.fail 1 else m
/-- What an ability becomes: an object of its own. -/
def Em.ab3 (m : Em) (i n p : Int) : Em := ((m.makeF (m.state.objs.getD i.toNat noObj 0) p 2).setF (m.made (m.state.objs.getD i.toNat noObj 0) p 2) 14 n).setF (m.made (m.state.objs.getD i.toNat noObj 0) p 2) 15 (i + 1)
def Em.abilityF (m : Em) (i n p : Int) : Em := if (m.abErr i n p).err ≠ 0 then m.abErr i n p else (m.ab3 i n p).putF (m.made (m.state.objs.getD i.toNat noObj 0) p 2) 9
def Em.abilityN (m : Em) (i n p : Int) : Int := if (m.abErr i n p).err ≠ 0 then 0 else if (m.abilityF i n p).err ≠ 0 then 0 else m.made (m.state.objs.getD i.toNat noObj 0) p 2
theorem failAt_calls (e : Int) {h0 : Hp} {id : Nat} {m : Em} {h : Hp} (he : EmAt h0 id m h) : ACalls prog G 37 [.ptr id 0, eE e] h fun r h' => r = .tup [] ∧ EmAt h0 id (m.fail e) h' := by
  obtain ⟨ve, vp, hr, rfl⟩ := he
  exact (fail_calls m ve vp e id _).mono fun r h' ⟨a, b⟩ => ⟨a, by rw [b]; exact fail_at hr e⟩
theorem do1_pe {m : Em} {x : Ev} : (m.do1 x).pend = m.pend ∧ m.evs.length ≤ (m.do1 x).evs.length := by
  unfold Em.do1
  split
  · exact ⟨rfl, Nat.le_refl _⟩
  · split
    · exact ⟨rfl, Nat.le_refl _⟩
    · split
      · exact ⟨rfl, by simp⟩
      · exact ⟨rfl, Nat.le_refl _⟩
theorem makeF_p {m : Em} {c o k : Int} (h : EmP m) : EmP (m.makeF c o k) := by
  have h1 := do1_pe (m := m) (x := mkEv c o k)
  exact ⟨doL_inv' h.inv, by show (m.do1 _).pend.length ≤ 4 * (m.do1 _).evs.length; have := h.pend; rw [h1.1]; omega⟩
theorem setF_p {m : Em} {i f n : Int} (h : EmP m) : EmP (m.setF i f n) := by
  have := setF_same (m := m) (i := i) (f := f) (n := n)
  exact ⟨setF_inv h.inv, by rw [this.pend]; have := this.evs; have := h.pend; omega⟩
theorem fail_p {m : Em} {e : Int} (h : EmP m) : EmP (m.fail e) := by
  refine ⟨fail_inv h.inv, ?_⟩
  unfold Em.fail; split <;> exact h.pend
theorem abErr_p {m : Em} {i n p : Int} (h : EmP m) : EmP (m.abErr i n p) := by
  unfold Em.abErr; split
  · exact fail_p h
  · split
    · exact fail_p h
    · exact h
theorem ab3_p {m : Em} {i n p : Int} (h : EmP m) : EmP (m.ab3 i n p) := setF_p (setF_p (makeF_p h))
theorem abilityF_p {m : Em} {i n p : Int} (h : EmP m) : EmP (m.abilityF i n p) := by
  unfold Em.abilityF; split
  · exact abErr_p h
  · exact putF_p (ab3_p h)
theorem pend_ok {m : Em} (h : EmP m) : m.pend.length ≤ 1000000 := by have := h.pend; have := h.inv.evs; omega
theorem abErr_no {m : Em} {i n p : Int} (h : (m.abErr i n p).err = 0) : m.abErr i n p = m ∧ hasT m.state i n = true := by
  have hf : ∀ e : Int, e ≠ 0 → (m.fail e).err ≠ 0 := fun e he => by
    unfold Em.fail; split
    · exact he
    · assumption
  unfold Em.abErr at *
  split at h
  · exact absurd h (hf 4 (by decide))
  · rename_i h1
    split at h
    · exact absurd h (hf 1 (by decide))
    · rename_i h2
      exact ⟨by rw [if_neg h1, if_neg h2], by simpa using h1⟩
theorem hasT_in {s : St} {i n : Int} (h : hasT s i n = true) : 0 ≤ i ∧ i < s.objs.length := by
  simp only [hasT, Bool.and_eq_true] at h
  have := h.1
  unfold kindT at this
  split at this
  · assumption
  · cases this
theorem pl_bits {p : Int} : (bif p != 0 then p != 1 else false) = !isPlayer p := by
  show (bif !(p == 0) then !(p == 1) else false) = !(p == 0 || p == 1)
  cases p == 0 <;> cases p == 1 <;> rfl

theorem ability_calls (i n p : Int) {h0 : Hp} {id : Nat} {m : Em} {h : Hp} (he : EmAt h0 id m h) (hP : EmP m) : ACalls prog G 20 [.ptr id 0, .int .i64 i, .int .i64 n, .int .i64 p] h fun r h' => r = .int .i64 (m.abilityN i n p) ∧ EmAt h0 id (m.abilityF i n p) h' := by
  obtain ⟨ve, vp, hbx⟩ := EmI.box he
  have hst := hP.inv.st2
  refine ACalls.enter func20 rfl ntmps20 results20 rfl ?_
  refine .seq <|
    .region <|
    .aI rfl rfl <|
    .nil <|
    .seq <|
    .region <|
    .mP rfl rfl ?_
  refine .u rfl rfl rfl (QOp.call rfl call16 fun h' hl' => by exact state_calls (hl'.box _ _ hbx) hP.inv.st) ?_
  refine AOps.s rfl rfl rfl (a_alloc rfl zeroValue29 rfl (fun id9 hid9 => ?_))
  refine .sw sizeOf29 rfl rfl rfl rfl ?_
  refine AOps.done 9 rfl hid9 ?_
  refine .nil ?_
  refine AW.cut (fun T h1 => T = put (put (put (put (put (T0) 0 (V.ptr id 0)) 1 (V.int .i64 i)) 2 (V.int .i64 n)) 3 (V.int .i64 p)) 9 (V.iptr (cState m.state)) ∧ EmAt h0 id (m.abErr i n p) h1) ?_ ?_
  · skip
    refine .block <|
      .seq <|
      .region <|
      .lw rfl isAgg29 sizeOf29 rfl rfl <|
      .mI rfl rfl <|
      .mI rfl rfl ?_
    refine .u rfl rfl rfl (QOp.call rfl call26 fun h' hl' => by exact hasT_calls m.state i n hst.1 h') ?_
    refine .nt rfl rfl <|
      .aB rfl rfl <|
      .nil ?_
    refine AW.cond rfl (fun c0 => ?_) (fun c0 => ?_)
    · have hh : hasT m.state i n = false := by simpa using c0
      refine .region <|
        .mP rfl rfl ?_
      refine .u rfl rfl rfl (q_iface rfl underlying97 rfl) ?_
      refine AOps.s rfl rfl rfl ((AStep.call rfl (by exact call37) (by exact ACalls.args (bs := [.ptr id 0, eE 4]) rfl (fun j => match j with | 0 => .refl _ | 1 => .of_eq (eErr_ne (by decide)).symm | _ + 2 => .refl _) (failAt_calls 4 he))).mono ?_)
      rintro x3 h3 ⟨rfl, he3⟩
      refine .nil ?_
      first | exact Wk.mk (TLe.put (d := 9) (VLe.refl _) (TLe.put (d := 3) (VLe.refl _) (TLe.put (d := 2) (VLe.refl _) (TLe.put (d := 1) (VLe.refl _) (TLe.put (d := 0) (VLe.refl _) (TLe.zero _)))))) (HLe.refl _) ⟨rfl, by rw [Em.abErr, if_pos hh]; exact he3⟩ | exact Wk.mk (TLe.put (d := 9) (VLe.refl _) (TLe.put (d := 3) (VLe.refl _) (TLe.put (d := 2) (VLe.refl _) (TLe.put (d := 1) (VLe.refl _) (TLe.put (d := 0) (VLe.refl _) (TLe.zero _)))))) (HLe.refl _) ⟨rfl, by rw [Em.abErr, if_neg (by rw [hh]; decide), if_pos hpl]; exact he3⟩ | exact Wk.mk (TLe.put (d := 9) (VLe.refl _) (TLe.put (d := 3) (VLe.refl _) (TLe.put (d := 2) (VLe.refl _) (TLe.put (d := 1) (VLe.refl _) (TLe.put (d := 0) (VLe.refl _) (TLe.zero _)))))) (HLe.refl _) ⟨rfl, by rw [Em.abErr, if_neg (by rw [hh]; decide), if_neg (by rw [hpl]; decide)]; exact he⟩
    · have hh : hasT m.state i n = true := by simpa using c0
      refine .seq <|
        .region <|
        .mI rfl rfl <|
        .qn rfl rfl rfl <|
        .mB rfl rfl ?_
      refine .gt rfl rfl rfl (fun _ => tl0) (fun hc => q_mv rfl (rfl : _ = V.int _ _)) ?_
      refine .gt rfl rfl rfl (fun hc => tl1 26 (.opt hc)) (fun hc => q_ne rfl rfl rfl) ?_
      refine .pt rfl rfl rfl rfl <|
        .aB rfl rfl <|
        .nil ?_
      refine AW.cond rfl (fun c1 => ?_) (fun c1 => ?_)
      · have hpl : isPlayer p = false := by rw [pl_bits] at c1; simpa using c1
        refine .region <|
          .mP rfl rfl ?_
        refine .u rfl rfl rfl (q_iface rfl underlying97 rfl) ?_
        refine AOps.s rfl rfl rfl ((AStep.call rfl (by exact call37) (by exact ACalls.args (bs := [.ptr id 0, eE 1]) rfl (fun j => match j with | 0 => .refl _ | 1 => .of_eq (eErr_ne (by decide)).symm | _ + 2 => .refl _) (failAt_calls 1 he))).mono ?_)
        rintro x3 h3 ⟨rfl, he3⟩
        refine .nil ?_
        first | exact Wk.mk (TLe.put (d := 9) (VLe.refl _) (TLe.put (d := 3) (VLe.refl _) (TLe.put (d := 2) (VLe.refl _) (TLe.put (d := 1) (VLe.refl _) (TLe.put (d := 0) (VLe.refl _) (TLe.zero _)))))) (HLe.refl _) ⟨rfl, by rw [Em.abErr, if_pos hh]; exact he3⟩ | exact Wk.mk (TLe.put (d := 9) (VLe.refl _) (TLe.put (d := 3) (VLe.refl _) (TLe.put (d := 2) (VLe.refl _) (TLe.put (d := 1) (VLe.refl _) (TLe.put (d := 0) (VLe.refl _) (TLe.zero _)))))) (HLe.refl _) ⟨rfl, by rw [Em.abErr, if_neg (by rw [hh]; decide), if_pos hpl]; exact he3⟩ | exact Wk.mk (TLe.put (d := 9) (VLe.refl _) (TLe.put (d := 3) (VLe.refl _) (TLe.put (d := 2) (VLe.refl _) (TLe.put (d := 1) (VLe.refl _) (TLe.put (d := 0) (VLe.refl _) (TLe.zero _)))))) (HLe.refl _) ⟨rfl, by rw [Em.abErr, if_neg (by rw [hh]; decide), if_neg (by rw [hpl]; decide)]; exact he⟩
      · have hpl : isPlayer p = true := by rw [pl_bits] at c1; simpa using c1
        refine AW.skip ?_
        first | exact Wk.mk (TLe.put (d := 9) (VLe.refl _) (TLe.put (d := 3) (VLe.refl _) (TLe.put (d := 2) (VLe.refl _) (TLe.put (d := 1) (VLe.refl _) (TLe.put (d := 0) (VLe.refl _) (TLe.zero _)))))) (HLe.refl _) ⟨rfl, by rw [Em.abErr, if_pos hh]; exact he3⟩ | exact Wk.mk (TLe.put (d := 9) (VLe.refl _) (TLe.put (d := 3) (VLe.refl _) (TLe.put (d := 2) (VLe.refl _) (TLe.put (d := 1) (VLe.refl _) (TLe.put (d := 0) (VLe.refl _) (TLe.zero _)))))) (HLe.refl _) ⟨rfl, by rw [Em.abErr, if_neg (by rw [hh]; decide), if_pos hpl]; exact he3⟩ | exact Wk.mk (TLe.put (d := 9) (VLe.refl _) (TLe.put (d := 3) (VLe.refl _) (TLe.put (d := 2) (VLe.refl _) (TLe.put (d := 1) (VLe.refl _) (TLe.put (d := 0) (VLe.refl _) (TLe.zero _)))))) (HLe.refl _) ⟨rfl, by rw [Em.abErr, if_neg (by rw [hh]; decide), if_neg (by rw [hpl]; decide)]; exact he⟩
  · rintro T h1 ⟨rfl, he5⟩
    obtain ⟨ve5, vp5, hb5⟩ := EmI.box he5
    refine .seq <|
      .seq <|
      .region <|
      .mP rfl rfl ?_
    refine .u rfl rfl rfl (QOp.call rfl call18 fun h' hl' => by exact err_calls (hl'.box _ _ hb5)) ?_
    refine .u rfl rfl rfl (q_neerr underlying58 rfl rfl) ?_
    refine .nil ?_
    refine AW.cond rfl (fun c2 => ?_) (fun c2 => ?_)
    · have hz : (m.abErr i n p).err ≠ 0 := by simpa using c2
      refine .seq <|
        .region <|
        .aI rfl rfl <|
        .nil ?_
      refine AW.ret ?_
      exact retQ.mk (.one _) ⟨(rfl : _ = V.int .i64 0).trans (congrArg (V.int .i64) (by rw [Em.abilityN, if_pos hz])), by rw [Em.abilityF, if_pos hz]; exact he5⟩
    · have hz : (m.abErr i n p).err = 0 := by simpa using c2
      obtain ⟨hno, hhT⟩ := abErr_no hz
      have hi := hasT_in hhT
      rw [hno] at he5
      refine AW.skip ?_
      refine .seq <|
        .region <|
        .mP rfl rfl <|
        .fi rfl f29_0 rfl <|
        .li rfl isAgg22 rfl rfl <|
        .mI rfl rfl ?_
      refine .u rfl rfl rfl (q_ia_s rfl underlying22 sizeOf72 rfl rfl (hi).1 (hi).2 (cObjs_elem' (hi).1 (hi).2)) ?_
      refine .u rfl rfl rfl (q_ia_ai rfl underlying72 sizeOf3 rfl rfl (by decide) (by decide) rfl) ?_
      refine .li rfl isAgg3 rfl rfl <|
        .mI rfl rfl ?_
      refine AOps.s rfl rfl rfl ((AStep.call rfl (by exact call42) (make_calls _ p 2 he5 hP.inv)).mono ?_)
      rintro x6 h6 ⟨rfl, he6⟩
      refine .aI rfl rfl <|
        .nil <|
        .seq <|
        .region <|
        .mP rfl rfl <|
        .mI rfl rfl <|
        .mI rfl rfl ?_
      refine AOps.s rfl rfl rfl ((AStep.call rfl (by exact call39) (setF_calls _ 14 n he6 (makeF_p hP).inv)).mono ?_)
      rintro x7 h7 ⟨rfl, he7⟩
      refine .nil <|
        .seq <|
        .region <|
        .mP rfl rfl <|
        .mI rfl rfl <|
        .mI rfl rfl <|
        .ad rfl rfl rfl (by omega) ?_
      refine AOps.s rfl rfl rfl ((AStep.call rfl (by exact call39) (setF_calls _ 15 (i + 1) he7 (setF_p (makeF_p hP)).inv)).mono ?_)
      rintro x8 h8 ⟨rfl, he8⟩
      refine .nil <|
        .seq <|
        .region <|
        .mP rfl rfl <|
        .mI rfl rfl ?_
      refine AOps.s rfl rfl rfl ((AStep.call rfl (by exact call25) (putF_calls _ 9 he8 (ab3_p hP).inv (pend_ok (ab3_p hP)))).mono ?_)
      rintro x9 h9 ⟨rfl, he9⟩
      obtain ⟨ve9, vp9, hb9⟩ := EmI.box he9
      refine .nil <|
        .seq <|
        .seq <|
        .region <|
        .mP rfl rfl ?_
      refine .u rfl rfl rfl (QOp.call rfl call18 fun h' hl' => by exact err_calls (hl'.box _ _ hb9)) ?_
      refine .u rfl rfl rfl (q_neerr underlying58 rfl rfl) ?_
      refine .nil ?_
      refine AW.cond rfl (fun c3 => ?_) (fun c3 => ?_)
      · have h9 : (m.abilityF i n p).err ≠ 0 := by rw [Em.abilityF, if_neg (by simpa using hz), Em.ab3]; simpa using c3
        refine .seq <|
          .region <|
          .aI rfl rfl <|
          .nil ?_
        refine AW.ret ?_
        exact retQ.mk (.one _) ⟨(rfl : _ = V.int .i64 0).trans (congrArg (V.int .i64) (by rw [Em.abilityN, if_neg (by simpa using hz), if_pos h9])), by rw [Em.abilityF, if_neg (by simpa using hz)]; exact he9⟩
      · have h9 : ¬ (m.abilityF i n p).err ≠ 0 := by rw [Em.abilityF, if_neg (by simpa using hz), Em.ab3]; simpa using c3
        refine AW.skip ?_
        refine .seq <|
          .region <|
          .mI rfl rfl <|
          .aI rfl rfl <|
          .nil ?_
        refine AW.ret ?_
        exact retQ.mk (.one _) ⟨(rfl : _ = V.int .i64 (m.made (m.state.objs.getD i.toNat noObj 0) p 2)).trans (congrArg (V.int .i64) (by rw [Em.abilityN, if_neg (by simpa using hz), if_neg h9])), by rw [Em.abilityF, if_neg (by simpa using hz)]; exact he9⟩

end Go.Proofs.YtagcjkbogaoifaaGreatDoor
/- Walks: what is pending comes on the stack; settling. -/
namespace Go.Proofs.YtagcjkbogaoifaaGreatDoor
open Go Go.AV Go.Proofs.Tryz
set_option maxRecDepth 100000
set_option maxHeartbeats 1000000
def noPd4 : Pd := ⟨0, 0, 0⟩
theorem pds_elem : ∀ {l : List Pd} {i : Nat}, i < l.length → ((cPds l).drop (i * 3)).take 3 = cPd (l.getD i noPd4)
  | [], i, h => by simp at h
  | o :: l, 0, _ => rfl
  | o :: l, i + 1, h => by
    have ih := pds_elem (l := l) (i := i) (by simpa using h)
    show ((cPd o ++ cPds l).drop ((i + 1) * 3)).take 3 = cPd (l.getD i noPd4)
    rw [← ih, show (i + 1) * 3 = (cPd o).length + i * 3 by show _ = 3 + i * 3; omega, List.drop_append, List.drop_eq_nil_of_le (by omega)]
    simp
theorem pds_at {l : List Pd} {i : Nat} (h : i < l.length) : ((cPds l).drop ((i : Int).toNat * 3)).take 3 = cPd (l.getD i noPd4) := by
  rw [Int.toNat_natCast]; exact pds_elem h
theorem pds_sealed {l : List Pd} {slack : List V} {id : Nat} : Sealed id (cPds l ++ slack) (.msl id 0 l.length) (ePds l) := by
  refine .inr ⟨0, 3, l.length, rfl, ?_, by simp [cPds_len]⟩
  rw [List.drop_zero, List.take_append_of_le_length (by rw [cPds_len]; omega), List.take_of_length_le (by rw [cPds_len]; omega)]
/-- Abilities, one by one. -/
def Em.abL (m : Em) (l : List Pd) : Em := l.foldl (fun m x => m.abilityF x.id x.ab x.ctl) m
theorem abL_p {m : Em} {l : List Pd} (h : EmP m) : EmP (m.abL l) := by
  induction l generalizing m with
  | nil => exact h
  | cons x l ih => exact ih (m := m.abilityF x.id x.ab x.ctl) (abilityF_p h)
theorem abL_next {m : Em} {l : List Pd} {k : Nat} (h : k < l.length) : m.abL (l.take (k + 1)) = (m.abL (l.take k)).abilityF (l.getD k noPd4).id (l.getD k noPd4).ab (l.getD k noPd4).ctl := by
  rw [Em.abL, Em.abL, List.take_add_one, List.getElem?_eq_getElem h, getD_of' h, List.foldl_append]; rfl
def Em.abLN (m : Em) (l : List Pd) : Int := if (m.abL l).err ≠ 0 then 0 else l.length

theorem abL_calls (l : List Pd) (hl : l.length ≤ 1000000) {h0 : Hp} {id : Nat} {m : Em} {h : Hp} (he : EmAt h0 id m h) (hP : EmP m) : ACalls prog G 64 [.ptr id 0, ePds l] h fun r h' => r = .int .i64 (m.abLN l) ∧ EmAt h0 id (m.abL l) h' := by
  refine ACalls.enter func64 rfl ntmps64 results64 rfl ?_
  refine .seq <|
    .region <|
    .aI rfl rfl <|
    .nil <|
    .seq <|
    .seq <|
    .region <|
    .mS rfl rfl <|
    .ln rfl underlying53 rfl <|
    .mI rfl rfl <|
    .nil <|
    .block ?_
  refine AW.loop (fun n T hh => ∃ (k : Nat) , k ≤ l.length ∧ n = l.length - k ∧ T = put (put (put (put (put (T0) 9 (V.int .i64 (k : Nat))) 8 (V.int .i64 l.length)) 7 (ePds l)) 1 (ePds l)) 0 (V.ptr id 0) ∧ EmAt h0 id (m.abL (l.take k)) hh) (l.length) ?_ ?_
  · skip
    refine Wk.mk (TLe.put (d := 0) (VLe.refl _) (TLe.put (d := 1) (VLe.refl _) (TLe.put (d := 7) (VLe.refl _) (TLe.put (d := 8) (VLe.refl _) (TLe.put (d := 9) (by exact VLe.of_eq (congrArg (V.int .i64) (by first | rfl | omega))) (TLe.zero _)))))) (HLe.refl _) ⟨0, Nat.zero_le _, rfl, rfl, by rw [List.take_zero]; exact he⟩
  · skip
    rintro n T h' ⟨k, hk, rfl, rfl, hem⟩
    refine .seq <|
      .region <|
      .ql rfl rfl rfl <|
      .nil <|
      .seq ?_
    refine AW.cond rfl (fun c0 => ?_) (fun c0 => ?_)
    · have hltk : k < l.length := by have := of_decide_eq_true c0; omega
      refine AW.skip ?_
      refine .seq <|
        .block <|
        .seq <|
        .region ?_
      refine .u rfl rfl rfl (q_ia_s rfl underlying53 sizeOf95 rfl rfl (by omega) (by omega) (pds_at hltk)) ?_
      refine .lw rfl isAgg95 sizeOf95 rfl rfl ?_
      refine AOps.s rfl rfl rfl (a_alloc rfl zeroValue95 rfl (fun id6 hid6 => ?_))
      refine .sw sizeOf95 rfl rfl rfl rfl ?_
      refine AOps.done 6 rfl hid6 ?_
      refine .nil <|
        .region <|
        .mP rfl rfl <|
        .fi rfl f95_0 rfl <|
        .li rfl isAgg3 rfl rfl <|
        .fi rfl f95_1 rfl <|
        .li rfl isAgg3 rfl rfl <|
        .fi rfl f95_2 rfl <|
        .li rfl isAgg3 rfl rfl ?_
      refine AOps.s rfl rfl rfl ((AStep.call rfl (by exact call20) (ability_calls (l.getD k noPd4).id (l.getD k noPd4).ab (l.getD k noPd4).ctl hem (abL_p hP))).mono ?_)
      rintro x9 h9 ⟨rfl, he9⟩
      refine .nil <|
        .region <|
        .ad rfl rfl rfl (by omega) <|
        .mI rfl rfl <|
        .nil ?_
      refine Wk.mk (TLe.put (d := 0) (VLe.refl _) (TLe.put (d := 1) (VLe.refl _) (TLe.put (d := 7) (VLe.refl _) (TLe.put (d := 8) (VLe.refl _) (TLe.put (d := 9) (by exact VLe.of_eq (congrArg (V.int .i64) (by first | rfl | omega))) (TLe.zero _)))))) (HLe.refl _) ⟨_, ?_, k + 1, ?_, rfl, rfl, by rw [abL_next hltk]; exact he9⟩
      · omega
      · omega
    · obtain rfl : k = l.length := by have := of_decide_eq_false c0; omega
      rw [List.take_length] at hem
      obtain ⟨ve9, vp9, hb9⟩ := EmI.box hem
      refine AW.exit ?_
      refine .seq <|
        .seq <|
        .region <|
        .mP rfl rfl ?_
      refine .u rfl rfl rfl (QOp.call rfl call18 fun h' hl' => by exact err_calls (hl'.box _ _ hb9)) ?_
      refine .u rfl rfl rfl (q_neerr underlying58 rfl rfl) ?_
      refine .nil ?_
      refine AW.cond rfl (fun c1 => ?_) (fun c1 => ?_)
      · have hz : (m.abL l).err ≠ 0 := by simpa using c1
        refine .seq <|
          .region <|
          .aI rfl rfl <|
          .nil ?_
        refine AW.ret ?_
        exact retQ.mk (.one _) ⟨(rfl : _ = V.int .i64 0).trans (congrArg (V.int .i64) (by rw [Em.abLN, if_pos hz])), hem⟩
      · have hz : ¬ (m.abL l).err ≠ 0 := by simpa using c1
        refine AW.skip ?_
        refine .seq <|
          .region <|
          .mS rfl rfl <|
          .ln rfl underlying53 rfl <|
          .aI rfl rfl <|
          .nil ?_
        refine AW.ret ?_
        exact retQ.mk (.one _) ⟨(rfl : _ = V.int .i64 l.length).trans (congrArg (V.int .i64) (by rw [Em.abLN, if_neg hz])), hem⟩

/-- What was pending comes on the stack. -/
def Em.flushF (m : Em) : Em := m.noPend.abL m.pending
def Em.flushN (m : Em) : Int := m.noPend.abLN m.pending
theorem noPend_p {m : Em} (h : EmI m) : EmP m.noPend := ⟨⟨h.sz, h.evs⟩, by simp [Em.noPend]⟩

theorem flush0_calls {h0 : Hp} {id : Nat} {m : Em} {h : Hp} (he : EmAt h0 id m h) (hP : EmP m) (hn : m.pending = []) : ACalls prog G 53 [.ptr id 0] h fun r h' => r = .int .i64 m.flushN ∧ EmAt h0 id m.flushF h' := by
  obtain ⟨ve, vp, hbx⟩ := EmI.box he
  refine ACalls.enter func53 rfl ntmps53 results53 rfl ?_
  refine .seq <|
    .region <|
    .aI rfl rfl <|
    .nil <|
    .seq <|
    .region <|
    .mP rfl rfl ?_
  refine .u rfl rfl rfl (QOp.call rfl call16 fun h' hl' => by exact state_calls (hl'.box _ _ hbx) hP.inv.st) ?_
  refine .u rfl rfl rfl (q_fN rfl underlying29 rfl (by exact isAgg27) (by exact sizeOf27) rfl rfl) ?_
  refine .u rfl rfl rfl (q_ix1 rfl underlying27 sizeOf3 isAgg3 rfl rfl (by decide) (by decide) rfl) ?_
  refine AOps.s rfl rfl rfl (a_alloc rfl zeroValue3 rfl (fun id3 hid3 => ?_))
  refine AOps.s0 rfl rfl (a_storeW1 rfl sizeOf3 rfl rfl (rfl : _ = V.int _ _) rfl rfl rfl ?_)
  refine .nil <|
    .seq ?_
  refine AW.done 3 rfl hid3 ?_
  refine .region <|
    .mP rfl rfl ?_
  refine AOps.s rfl rfl rfl ((AStep.call rfl (by exact call49) (taken0_calls he hn (pend_ok hP))).mono ?_)
  rintro x3 h3 ⟨rfl, he3⟩
  refine .aS rfl rfl <|
    .nil <|
    .seq <|
    .region <|
    .mS rfl rfl ?_
  refine .u rfl rfl rfl (q_func rfl) ?_
  refine .u rfl rfl rfl (QOp.call rfl call99 fun h' hl' => by exact sort1_calls 0 (by decide) rfl h') ?_
  refine .nil <|
    .seq <|
    .region <|
    .mP rfl rfl <|
    .mS rfl rfl ?_
  refine AOps.s rfl rfl rfl ((AStep.call rfl (by exact call64) (abL_calls [] (by decide) he3 (noPend_p hP.inv))).mono ?_)
  rintro x9 h9 ⟨rfl, he9⟩
  refine .aI rfl rfl <|
    .nil ?_
  refine AW.ret ?_
  exact retQ.mk (.one _) ⟨by rw [Em.flushN, hn]; rfl, by rw [Em.flushF, hn]; exact he9⟩

theorem flush1_calls {h0 : Hp} {id : Nat} {m : Em} {h : Hp} (he : EmAt h0 id m h) (hP : EmP m) (hz : m.err = 0) (hn : m.pend.length = 1) : ACalls prog G 53 [.ptr id 0] h fun r h' => r = .int .i64 m.flushN ∧ EmAt h0 id m.flushF h' := by
  obtain ⟨ve, vp, hbx⟩ := EmI.box he
  refine ACalls.enter func53 rfl ntmps53 results53 rfl ?_
  refine .seq <|
    .region <|
    .aI rfl rfl <|
    .nil <|
    .seq <|
    .region <|
    .mP rfl rfl ?_
  refine .u rfl rfl rfl (QOp.call rfl call16 fun h' hl' => by exact state_calls (hl'.box _ _ hbx) hP.inv.st) ?_
  refine .u rfl rfl rfl (q_fN rfl underlying29 rfl (by exact isAgg27) (by exact sizeOf27) rfl rfl) ?_
  refine .u rfl rfl rfl (q_ix1 rfl underlying27 sizeOf3 isAgg3 rfl rfl (by decide) (by decide) rfl) ?_
  refine AOps.s rfl rfl rfl (a_alloc rfl zeroValue3 rfl (fun id3 hid3 => ?_))
  refine AOps.s0 rfl rfl (a_storeW1 rfl sizeOf3 rfl rfl (rfl : _ = V.int _ _) rfl rfl rfl ?_)
  refine .nil <|
    .seq ?_
  refine AW.done 3 rfl hid3 ?_
  refine .region <|
    .mP rfl rfl ?_
  refine AOps.s rfl rfl rfl ((AStep.call rfl (by exact call49) (takenM_calls he hz (by omega) (pend_ok hP))).mono ?_)
  rintro x3 h3 ⟨h1, idc, slack, he3, hidc, rfl, rfl⟩
  refine .u rfl rfl rfl (q_as rfl (rfl : _ = V.msl _ _ _)) ?_
  refine .nil <|
    .seq <|
    .region ?_
  refine .u rfl rfl rfl (q_mv rfl (rfl : _ = V.msl _ _ _)) ?_
  refine .u rfl rfl rfl (q_func rfl) ?_
  refine .u rfl rfl rfl (QOp.call rfl call99 fun h' hl' => by exact sort1_calls m.pend.length (by omega) rfl h') ?_
  refine .nil <|
    .seq ?_
  refine AW.stay (d := 4) (y := ePds m.pend) (h0 := h1) (Hp.box_setBox _ _ _) (.setBox hidc.1) hidc.1 pds_sealed ?_
  refine .region <|
    .mP rfl rfl <|
    .mS rfl rfl ?_
  refine AOps.s rfl rfl rfl ((AStep.call rfl (by exact call64) (abL_calls m.pend (by omega) he3 (noPend_p hP.inv))).mono ?_)
  rintro x9 h9 ⟨rfl, he9⟩
  refine .aI rfl rfl <|
    .nil ?_
  refine AW.ret ?_
  have hpd : m.pending = m.pend := by unfold Em.pending; rw [if_pos hz]
  exact retQ.mk (.one _) ⟨by rw [Em.flushN, hpd]; rfl, by rw [Em.flushF, hpd]; exact he9⟩

theorem flush_calls {h0 : Hp} {id : Nat} {m : Em} {h : Hp} (he : EmAt h0 id m h) (hP : EmP m) (hn : m.pending.length ≤ 1) : ACalls prog G 53 [.ptr id 0] h fun r h' => r = .int .i64 m.flushN ∧ EmAt h0 id m.flushF h' := by
  by_cases h0 : m.pending = []
  · exact flush0_calls he hP h0
  · have hz : m.err = 0 := by
      unfold Em.pending at h0; split at h0
      · assumption
      · exact absurd rfl h0
    have e : m.pending = m.pend := by unfold Em.pending; rw [if_pos hz]
    refine flush1_calls he hP hz ?_
    have : m.pending.length ≠ 0 := fun e => h0 (List.eq_nil_of_length_eq_zero e)
    rw [e] at this hn; omega
theorem taken_any {h0 : Hp} {id : Nat} {m : Em} {h : Hp} (he : EmAt h0 id m h) (hP : EmP m) : ACalls prog G 49 [.ptr id 0] h fun _ h' => ∃ h1, EmAt h0 id m.noPend h1 ∧ HLe h' h1 := by
  by_cases h0 : m.pending = []
  · exact (taken0_calls he h0 (pend_ok hP)).mono fun r h' ⟨_, b⟩ => ⟨h', b, .refl _⟩
  · have hz : m.err = 0 := by
      unfold Em.pending at h0; split at h0
      · assumption
      · exact absurd rfl h0
    have e : m.pending = m.pend := by unfold Em.pending; rw [if_pos hz]
    have : m.pending.length ≠ 0 := fun e => h0 (List.eq_nil_of_length_eq_zero e)
    rw [e] at this
    exact (takenM_calls he hz (by omega) (pend_ok hP)).mono fun r h' ⟨h1, idc, sl, a, b, _, d⟩ => ⟨h1, a, by rw [d]; exact .setBox b.1⟩

theorem settle_calls {h0 : Hp} {id : Nat} {m : Em} {h : Hp} (he : EmAt h0 id m h) (hP : EmP m) (hq : ∀ m2 n2, Runs ((m.state.objs.length : Int) + 1) m 0 m2 n2 → m2.pending.length ≤ 1) : ACalls prog G 17 [.ptr id 0] h fun r h' => r = .tup [] ∧ ∃ m2 n2, Runs ((m.state.objs.length : Int) + 1) m 0 m2 n2 ∧ EmP m2 ∧ EmAt h0 id (if m2.state.game 6 ≠ 0 then m2.noPend else m2.flushF) h' := by
  obtain ⟨ve, vp, hbx⟩ := EmI.box he
  have hst := hP.inv.st2
  refine ACalls.enter func17 rfl ntmps17 results17 rfl ?_
  refine .seq <|
    .region <|
    .mP rfl rfl <|
    .mP rfl rfl ?_
  refine .u rfl rfl rfl (QOp.call rfl call16 fun h' hl' => by exact state_calls (hl'.box _ _ hbx) hP.inv.st) ?_
  refine .u rfl rfl rfl (QOp.call rfl call52 fun h' hl' => by exact fuel_calls m.state hst.1 h') ?_
  refine AOps.s rfl rfl rfl ((AStep.call rfl (by exact call51) (run_calls _ he hP)).mono ?_)
  rintro x2 h2 ⟨m2, n2, hr, hP2, rfl, he2⟩
  obtain ⟨ve2, vp2, hb2⟩ := EmI.box he2
  refine .nil <|
    .seq <|
    .seq <|
    .region <|
    .mP rfl rfl ?_
  refine .u rfl rfl rfl (QOp.call rfl call16 fun h' hl' => by exact state_calls (hl'.box _ _ hb2) hP2.inv.st) ?_
  refine .u rfl rfl rfl (q_fN rfl underlying29 rfl (by exact isAgg27) (by exact sizeOf27) rfl rfl) ?_
  refine .u rfl rfl rfl (q_ix1 rfl underlying27 sizeOf3 isAgg3 rfl rfl (by decide) (by decide) rfl) ?_
  refine .qn rfl rfl rfl <|
    .nil ?_
  refine AW.cond rfl (fun c0 => ?_) (fun c0 => ?_)
  · skip
    refine .seq <|
      .region <|
      .mP rfl rfl ?_
    refine AOps.s rfl rfl rfl ((AStep.call rfl (by exact call49) (taken_any he2 hP2)).mono ?_)
    rintro x3 h3 ⟨h1, he3, hle3⟩
    refine .nil ?_
    refine AW.ret ?_
    exact retQ.mk' .none (VLe.refl _) hle3 ⟨rfl, m2, n2, hr, hP2, by rw [if_pos (by simpa using c0)]; exact he3⟩
  · skip
    refine AW.skip ?_
    refine .region <|
      .mP rfl rfl ?_
    refine AOps.s rfl rfl rfl ((AStep.call rfl (by exact call53) (flush_calls he2 hP2 (hq _ _ hr))).mono ?_)
    rintro x9 h9 ⟨rfl, he9⟩
    refine .nil ?_
    exact retQ.mk .none ⟨rfl, m2, n2, hr, hP2, by rw [if_neg (by simpa using c0)]; exact he9⟩

end Go.Proofs.YtagcjkbogaoifaaGreatDoor
/- Walks: the document's cards: their parts. -/
namespace Go.Proofs.YtagcjkbogaoifaaGreatDoor
open Go Go.AV Go.Proofs.Tryz
set_option maxRecDepth 100000
set_option maxHeartbeats 1000000
theorem bx_acc {h0 : Hp} {id n len : Nat} {cs bc : List V} {v : V} (a : AccV n len cs v) (f : vFresh v h0) (fi : (addTok v h0).fresh id) : Go.AV.Acc (h0.setBox id bc) n len cs v ((addTok v h0).setBox id bc) := by
  refine acc_iff.2 ⟨a, ?_, (addTok_setBox _ _ _ _).symm⟩
  have h2 := fi.2
  unfold vFresh at *
  split
  · rename_i t n len c
    simp only [addTok] at h2
    have hne : t ≠ id := fun e => by subst e; simp at h2
    exact ⟨by rw [Hp.box_setBox_ne _ _ hne]; exact f.1, f.2⟩
  · trivial
theorem bx_app {h0 h' : Hp} {id n len : Nat} {cs bc : List V} {v : V} (hid : h0.fresh id) (acc : Go.AV.Acc (h0.setBox id bc) n len cs v h') :
    h'.box id = some bc ∧ (v.cells = [v] ∧ v.solid = true) ∧ (∀ c2, h'.setBox id c2 = (addTok v h0).setBox id c2) ∧ AccV n len cs v ∧ vFresh v h0 ∧ (addTok v h0).fresh id := by
  obtain ⟨a, f, rfl⟩ := acc_iff.1 acc
  have fe : vFresh v h0 ∧ (addTok v h0).tok id = none := by
    unfold vFresh addTok at *
    split
    · rename_i t n len c
      simp only at f
      have hne : t ≠ id := fun e => by subst e; have := f.1; simp at this
      exact ⟨⟨by have := f.1; rwa [Hp.box_setBox_ne _ _ hne] at this, f.2⟩, by rw [Hp.tok_setTok_ne _ _ hne.symm]; exact hid.2⟩
    · exact ⟨trivial, hid.2⟩
  refine ⟨by rw [addTok_box, Hp.box_setBox], a.cells, fun c2 => by rw [addTok_setBox, Hp.setBox_setBox], a, fe.1, ⟨by rw [addTok_box]; exact hid.1, fe.2⟩⟩
def giveF (n c : Int) : Abil := ⟨6, fun _ => 0, true, 0, ⟨15, n, c, 0, []⟩⟩
def subAt (row : List Int) (q : Nat) : Eff0 := ⟨row.getD (4 + 4 * q) 0, row.getD (4 + 4 * q + 1) 0, row.getD (4 + 4 * q + 2) 0, row.getD (4 + 4 * q + 3) 0⟩
def subsUp (row : List Int) (q : Nat) : List Eff0 := (List.range q).map (subAt row)
/-- An effect, out of a row of numbers. -/
def effR (row : List Int) : Eff := ⟨row.getD 0 0, row.getD 1 0, row.getD 2 0, row.getD 3 0, subsUp row ((row.length - 4) / 4)⟩
def cEffN (e : Eff0) : List V := [.int .i64 e.op, .int .i64 e.n, .int .i64 e.m, .int .i64 e.who, .snil]
theorem subs_next {row : List Int} {q : Nat} : (subsUp row (q + 1)).flatMap cEffN = (subsUp row q).flatMap cEffN ++ cEffN (subAt row q) := by
  simp [subsUp, List.range_succ]
theorem subs_len {row : List Int} {q : Nat} : (subsUp row q).length = q := by simp [subsUp]
theorem eff0_le {e : Eff0} : LLe (cEffN e) (cEff0 e) := .cons (.refl _) (.cons (.refl _) (.cons (.refl _) (.cons (.refl _) (.cons .nilimm .nil))))
theorem effs_le : ∀ l : List Eff0, LLe (l.flatMap cEffN) (l.flatMap cEff0)
  | [] => .nil
  | e :: l => LLe.append (eff0_le (e := e)) (effs_le l)

theorem refGive_calls (n c : Int) (h : Hp) : ACalls prog G 73 [.int .i64 n, .int .i64 c] h fun r h' => r = eAbil (giveF n c) ∧ h' = h := by
  refine ACalls.enter func73 rfl ntmps73 results73 rfl ?_
  refine .seq <|
    .region ?_
  refine AOps.s rfl rfl rfl (a_alloc rfl zeroValue38 rfl (fun id4 hid4 => ?_))
  refine .nil <|
    .seq <|
    .region <|
    .mI rfl rfl <|
    .mI rfl rfl ?_
  refine .u rfl rfl rfl (q_buildS (ds := [.int .i64 15, .int .i64 n, .int .i64 c, .int .i64 0, .snil]) rfl zeroValue36 underlying36 (pl36 underlying36) rfl (by kernel_rfl)) ?_
  refine .u rfl rfl rfl (q_buildS (ds := [.int .i64 6, .int .i64 0, .int .i64 0, .int .i64 0, .int .i64 0, .int .i64 0, .int .i64 0, .bool true, .int .i64 0, .int .i64 15, .int .i64 n, .int .i64 c, .int .i64 0, .snil]) rfl zeroValue38 underlying38 (pl38 underlying38) rfl (by kernel_rfl)) ?_
  refine .sw sizeOf38 rfl rfl rfl rfl <|
    .nil ?_
  refine AW.ret ?_
  exact retQ.mk' (Res.cellB isAgg38 sizeOf38 rfl (by exact bsb) rfl) (LLe.agg (LLe.append (a := [.int .i64 6, .int .i64 0, .int .i64 0, .int .i64 0, .int .i64 0, .int .i64 0, .int .i64 0, .bool true, .int .i64 0, .int .i64 15, .int .i64 n, .int .i64 c, .int .i64 0]) (.refl _) (.cons .nilimm .nil))) (HLe.setBox hid4.1) ⟨rfl, rfl⟩

theorem refEffect_calls (row : List Int) (k : SK) (hr : 4 ≤ row.length ∧ row.length ≤ 100 ∧ (row.length - 4) % 4 = 0) (h : Hp) : ACalls prog G 75 [.sl k 1 row.length (cInts row)] h fun r h' => r = eEff (effR row) ∧ h' = h := by
  obtain ⟨J, hJ⟩ : ∃ J, J = (row.length - 4) / 4 := ⟨_, rfl⟩
  have hlen : row.length = 4 + 4 * J := by omega
  refine ACalls.enter func75 rfl ntmps75 results75 rfl ?_
  refine .seq <|
    .region ?_
  refine AOps.s rfl rfl rfl (a_alloc rfl zeroValue36 rfl (fun id2 hid2 => ?_))
  refine .nil <|
    .seq ?_
  refine AW.draw [14] [] [(0, true), (1, true), (2, true), (3, true), (4, true), (5, true), (6, true), (7, true), (8, true), (9, true), (10, true), (11, true), (12, true), (13, false), (14, false)] mixed (by kernel_rfl) rfl (by kernel_rfl) ?_
  refine .q rfl rfl rfl rfl (q_mv rfl (rfl : _ = V.sl _ _ _ _)) ?_
  refine .q rfl rfl rfl rfl (q_ia_s rfl underlying23 sizeOf3 rfl rfl (by omega) (by omega) (cInts_elem (by omega) (by omega))) ?_
  refine .q rfl rfl rfl rfl (q_load_i1 rfl isAgg3 rfl rfl) ?_
  refine .q rfl rfl rfl rfl (q_mv rfl (rfl : _ = V.sl _ _ _ _)) ?_
  refine .q rfl rfl rfl rfl (q_ia_s rfl underlying23 sizeOf3 rfl rfl (by omega) (by omega) (cInts_elem (by omega) (by omega))) ?_
  refine .q rfl rfl rfl rfl (q_load_i1 rfl isAgg3 rfl rfl) ?_
  refine .q rfl rfl rfl rfl (q_mv rfl (rfl : _ = V.sl _ _ _ _)) ?_
  refine .q rfl rfl rfl rfl (q_ia_s rfl underlying23 sizeOf3 rfl rfl (by omega) (by omega) (cInts_elem (by omega) (by omega))) ?_
  refine .q rfl rfl rfl rfl (q_load_i1 rfl isAgg3 rfl rfl) ?_
  refine .q rfl rfl rfl rfl (q_mv rfl (rfl : _ = V.sl _ _ _ _)) ?_
  refine .q rfl rfl rfl rfl (q_ia_s rfl underlying23 sizeOf3 rfl rfl (by omega) (by omega) (cInts_elem (by omega) (by omega))) ?_
  refine .q rfl rfl rfl rfl (q_load_i1 rfl isAgg3 rfl rfl) ?_
  refine .q rfl rfl rfl rfl (q_buildS (ds := [V.int .i64 (row.getD 0 0), V.int .i64 (row.getD 1 0), V.int .i64 (row.getD 2 0), V.int .i64 (row.getD 3 0), V.snil]) rfl zeroValue36 underlying36 (pl36 underlying36) rfl (by kernel_rfl)) ?_
  refine AOrd.s' rfl rfl rfl (a_alloc rfl zeroValue36 rfl (fun id3 hid3 => ⟨?_, HLe.setBox hid3.1⟩))
  refine AOrd.s0 rfl rfl rfl rfl (a_storeA rfl sizeOf36 rfl (by exact bsb) (rfl : _ = V.agg _) rfl (by first | decide | exact Nat.le_of_ble_eq_true rfl) ?_)
  refine AOrd.nil ?_
  refine .seq <|
    .seq <|
    .region <|
    .aI rfl rfl <|
    .nil <|
    .block ?_
  refine AW.loop (fun n T hh => ∃ (q : Nat) (v : V), q ≤ J ∧ n = J - q ∧ T = put (put (put (put (T0) 4 (V.int .i64 (4 + 4 * (q : Nat)))) 3 (V.ptr id3 0)) 2 (V.ptr id2 0)) 0 (V.sl k 1 row.length (cInts row)) ∧ (AccV 5 q ((subsUp row q).flatMap cEffN) v ∧ vFresh v (h.setBox id2 [V.int .i64 0, V.int .i64 0, V.int .i64 0, V.int .i64 0, V.snil]) ∧ (addTok v (h.setBox id2 [V.int .i64 0, V.int .i64 0, V.int .i64 0, V.int .i64 0, V.snil])).fresh id3) ∧ hh = (addTok v (h.setBox id2 [V.int .i64 0, V.int .i64 0, V.int .i64 0, V.int .i64 0, V.snil])).setBox id3 [V.int .i64 (row.getD 0 0), V.int .i64 (row.getD 1 0), V.int .i64 (row.getD 2 0), V.int .i64 (row.getD 3 0), v]) (J) ?_ ?_
  · skip
    refine Wk.mk (TLe.put (d := 0) (VLe.refl _) (TLe.put (d := 2) (VLe.refl _) (TLe.put (d := 3) (VLe.refl _) (TLe.put (d := 4) (by exact VLe.of_eq (congrArg (V.int .i64) (by first | rfl | omega))) (TLe.zero _))))) (HLe.refl _) ⟨0, V.snil, Nat.zero_le _, rfl, rfl, ⟨⟨⟨rfl, .inl ⟨rfl, rfl, rfl⟩⟩, trivial, hid3⟩, by rw [Hp.setBox_setBox]; rfl⟩⟩
  · skip
    rintro n T h' ⟨q, v, hq, rfl, rfl, ⟨⟨ha, hf, hfi⟩, rfl⟩⟩
    refine .seq <|
      .seq <|
      .region <|
      .mI rfl rfl <|
      .mS rfl rfl <|
      .ln rfl underlying23 rfl <|
      .ql rfl rfl rfl <|
      .nil ?_
    refine AW.cond rfl (fun c0 => ?_) (fun c0 => ?_)
    · have hltq : q < J := by have := of_decide_eq_true c0; omega
      refine AW.skip ?_
      refine .seq <|
        .block ?_
      refine AW.draw [23, 25] [0, 2, 3, 4, 5, 6, 7, 8, 9, 10, 11, 12, 13, 14, 15, 16, 17, 18, 19, 20] [(0, true), (1, true), (2, true), (3, true), (4, true), (5, true), (6, true), (7, true), (8, true), (9, true), (10, true), (11, true), (12, true), (13, true), (14, true), (15, true), (16, true), (17, true), (18, true), (19, true), (20, true), (21, false), (22, true), (23, false), (24, true), (25, false)] mixed (by kernel_rfl) rfl (by kernel_rfl) ?_
      refine .p rfl rfl rfl (fun _ => q_fa_b rfl underlying36 rfl (by exact sizeOf34) (by decide) rfl (rfl : _ = 4)) ?_
      refine .q rfl rfl rfl rfl (q_load_b1 rfl isAgg34 rfl (by exact bsb) rfl) ?_
      refine .p rfl rfl rfl (fun _ => q_mv rfl (rfl : _ = V.sl _ _ _ _)) ?_
      refine .p rfl rfl rfl (fun _ => q_mv rfl (rfl : _ = V.int _ _)) ?_
      refine .p rfl rfl rfl (fun _ => q_ia_s rfl underlying23 sizeOf3 rfl rfl (by omega) (by omega) (cInts_elem (by omega) (by omega))) ?_
      refine .p rfl rfl rfl (fun _ => q_load_i1 rfl isAgg3 rfl rfl) ?_
      refine .p rfl rfl rfl (fun _ => q_mv rfl (rfl : _ = V.sl _ _ _ _)) ?_
      refine .p rfl rfl rfl (fun _ => q_mv rfl (rfl : _ = V.int _ _)) ?_
      refine .p rfl rfl rfl (fun _ => q_add' rfl rfl rfl (by omega)) ?_
      refine .p rfl rfl rfl (fun _ => q_ia_s rfl underlying23 sizeOf3 rfl rfl (by omega) (by omega) (cInts_elem (by omega) (by omega))) ?_
      refine .p rfl rfl rfl (fun _ => q_load_i1 rfl isAgg3 rfl rfl) ?_
      refine .p rfl rfl rfl (fun _ => q_mv rfl (rfl : _ = V.sl _ _ _ _)) ?_
      refine .p rfl rfl rfl (fun _ => q_mv rfl (rfl : _ = V.int _ _)) ?_
      refine .p rfl rfl rfl (fun _ => q_add' rfl rfl rfl (by omega)) ?_
      refine .p rfl rfl rfl (fun _ => q_ia_s rfl underlying23 sizeOf3 rfl rfl (by omega) (by omega) (cInts_elem (by omega) (by omega))) ?_
      refine .p rfl rfl rfl (fun _ => q_load_i1 rfl isAgg3 rfl rfl) ?_
      refine .p rfl rfl rfl (fun _ => q_mv rfl (rfl : _ = V.sl _ _ _ _)) ?_
      refine .p rfl rfl rfl (fun _ => q_mv rfl (rfl : _ = V.int _ _)) ?_
      refine .p rfl rfl rfl (fun _ => q_add' rfl rfl rfl (by omega)) ?_
      refine .p rfl rfl rfl (fun _ => q_ia_s rfl underlying23 sizeOf3 rfl rfl (by omega) (by omega) (cInts_elem (by omega) (by omega))) ?_
      refine .p rfl rfl rfl (fun _ => q_load_i1 rfl isAgg3 rfl rfl) ?_
      refine AOrd.qf rfl rfl rfl (q_buildS (ds := (cEffN (subAt row q))) rfl zeroValue36 underlying36 (pl36 underlying36) rfl (by kernel_rfl)) ?_
      refine .q rfl rfl rfl rfl (q_buildSl (ds := (cEffN (subAt row q))) rfl underlying34 sizeOf36 zeroValue36 rfl rfl rfl rfl (by kernel_rfl)) ?_
      refine AOrd.s rfl rfl rfl rfl (a_append rfl underlying34 (i := t36) (by kernel_rfl) rfl (n := 5) (by' := 56) rfl rfl rfl rfl (bx_acc (v := v) (h0 := h.setBox id2 [V.int .i64 0, V.int .i64 0, V.int .i64 0, V.int .i64 0, V.snil]) (id := id3) (bc := [V.int .i64 (row.getD 0 0), V.int .i64 (row.getD 1 0), V.int .i64 (row.getD 2 0), V.int .i64 (row.getD 3 0), v]) ha hf hfi) rfl rfl (by decide) (by show (q + 1) * 56 ≤ _; omega) (by show q + 1 ≤ _; omega) rfl (fun v3 h3 acc => ?_))
      obtain ⟨hb3, hc3, hs3, ha3, hf3, hfi3⟩ := bx_app hid3 acc
      refine .q rfl rfl rfl rfl (q_fa_b rfl underlying36 rfl (by exact sizeOf34) (by decide) rfl (rfl : _ = 4)) ?_
      refine AOrd.s0 rfl rfl rfl rfl (a_store1 rfl sizeOf34 rfl (by exact hb3) (rfl : _ = v3) hc3.1 hc3.2 (by exact Nat.le_of_ble_eq_true rfl) ?_)
      refine AOrd.nil ?_
      refine .region <|
        .mI rfl rfl <|
        .ad rfl rfl rfl (by omega) <|
        .aI rfl rfl <|
        .nil ?_
      refine Wk.mk (TLe.put (d := 0) (VLe.refl _) (TLe.put (d := 2) (VLe.refl _) (TLe.put (d := 3) (VLe.refl _) (TLe.put (d := 4) (by exact VLe.of_eq (congrArg (V.int .i64) (by first | rfl | omega))) (TLe.zero _))))) (HLe.refl _) ⟨_, ?_, q + 1, _, ?_, rfl, rfl, ⟨⟨by rw [subs_next]; exact ha3, hf3, hfi3⟩, hs3 _⟩⟩
      · omega
      · omega
    · obtain rfl : q = J := by have := of_decide_eq_false c0; omega
      have n32 : id3 ≠ id2 := (fresh_ne hid3).symm
      refine AW.exit ?_
      refine .seq <|
        .region ?_
      refine .u rfl rfl rfl (q_load_bW rfl isAgg36 sizeOf36 (by decide) rfl (by exact bsb) (by rfl)) ?_
      refine AOps.s0 rfl rfl (a_storeA rfl sizeOf36 rfl (by exact box_under n32 (by rw [addTok_box]; exact Hp.box_setBox _ _ _)) (rfl : _ = V.agg _) rfl (by first | decide | exact Nat.le_of_ble_eq_true rfl) ?_)
      refine .nil ?_
      refine AW.ret ?_
      exact retQ.mk' (Res.cellB isAgg36 sizeOf36 rfl (by exact bsb) rfl) (LLe.agg (.cons (.refl _) (.cons (.refl _) (.cons (.refl _) (.cons (.refl _) (.cons (by rw [effR, ← hJ, subs_len]; exact ha.imm.trans (effs_le _).sl) .nil)))))) (HLe.over (HLe.over ((addTok_le hf).trans (HLe.setBox hid2.1)) (none_of hid3.1)) hid2.1) ⟨rfl, rfl⟩

end Go.Proofs.YtagcjkbogaoifaaGreatDoor
/- Walks: the document's cards: abilities and rows of numbers. -/
namespace Go.Proofs.YtagcjkbogaoifaaGreatDoor
open Go Go.AV Go.Proofs.Tryz
set_option maxRecDepth 100000
set_option maxHeartbeats 1000000
theorem cInts_to {l : List Int} {i : Int} (j : Nat) (e : i.toNat = j) (h0 : 0 ≤ i) (h1 : i < l.length) : ((cInts l).drop (i.toNat * 1)).take 1 = [.int .i64 (l.getD j 0)] := e ▸ cInts_elem h0 h1
def cRows (l : List (List Int)) : List V := l.map fun r => .sl .full 1 r.length (cInts r)
theorem cRows_elem {l : List (List Int)} {i : Int} (h0 : 0 ≤ i) (h1 : i < l.length) : ((cRows l).drop (i.toNat * 1)).take 1 = [.sl .full 1 (l.getD i.toNat []).length (cInts (l.getD i.toNat []))] := by
  obtain ⟨n, rfl⟩ := Int.eq_ofNat_of_zero_le h0
  have hn : n < l.length := by omega
  simp only [cRows, Int.toNat_natCast, Nat.mul_one]
  rw [List.drop_eq_getElem_cons (by simpa using hn)]
  simp [List.getD_eq_getElem?_getD, List.getElem?_eq_getElem hn]
theorem q_sliceI {P : Program} {G : Nat → Option (List V)} {h : Hp} {o : Oper} {ρ : Operand → V} {t e : TypeId} {x lo : Operand} (ho : o.op = .slice t x (some lo) none none) (hu : P.underlying t = some (.slice e)) (hs : ∀ w, (sizeOf e).run P w = .ok 1 w) {k : SK} {l : Nat} {row : List Int} (hx : ρ x = .sl k 1 row.length (cInts row)) (hlo : ρ lo = .int .i64 (l : Int)) (hl : l ≤ row.length) :
    QOp P G h o ρ (.sl .imm 1 (row.drop l).length (cInts (row.drop l))) := by
  have := q_sliceS (P := P) (G := G) (h := h) ho hu hs hx hlo hl
  rwa [show (cInts row).drop (l * 1) = cInts (row.drop l) by simp [cInts, List.map_drop], ← List.length_drop] at this
def oneCost (c n : Int) : Cost := fun j => if (j : Int) = c then n else 0
theorem abil_set {w c n tg : Int} {tap : Bool} {e : Eff} (h0 : 0 ≤ c) (h1 : c < 6) : splice (cAbil ⟨w, noCost, tap, tg, e⟩) (1 + c.toNat * 1) [.int .i64 n] = cAbil ⟨w, oneCost c n, tap, tg, e⟩ := by
  obtain ⟨k, rfl⟩ := Int.eq_ofNat_of_zero_le h0
  have : k = 0 ∨ k = 1 ∨ k = 2 ∨ k = 3 ∨ k = 4 ∨ k = 5 := by omega
  rcases this with e | e | e | e | e | e <;> subst e <;> rfl
/-- An ability, out of a row of numbers. -/
def abilR (row : List Int) : Abil := ⟨row.getD 0 0, if 0 ≤ row.getD 1 0 then oneCost (row.getD 1 0) 1 else noCost, row.getD 2 0 == 1, row.getD 3 0, effR (row.drop 4)⟩

theorem refAbility_calls (row : List Int) (k : SK) (hr : 8 ≤ row.length ∧ row.length ≤ 50 ∧ (row.length - 8) % 4 = 0 ∧ row.getD 1 0 < 6) (h : Hp) : ACalls prog G 76 [.sl k 1 row.length (cInts row)] h fun r h' => r = eAbil (abilR row) ∧ h' = h := by
  refine ACalls.enter func76 rfl ntmps76 results76 rfl ?_
  refine .seq <|
    .region ?_
  refine AOps.s rfl rfl rfl (a_alloc rfl zeroValue38 rfl (fun id2 hid2 => ?_))
  refine .nil <|
    .seq ?_
  refine AW.draw [15] [] [(0, true), (1, true), (2, true), (3, true), (4, true), (5, true), (6, true), (7, true), (8, true), (9, true), (10, true), (11, true), (12, true), (13, true), (14, false), (15, false)] mixed (by kernel_rfl) rfl (by kernel_rfl) ?_
  refine .q rfl rfl rfl rfl (q_mv rfl (rfl : _ = V.sl _ _ _ _)) ?_
  refine .q rfl rfl rfl rfl (q_ia_s rfl underlying23 sizeOf3 rfl rfl (by omega) (by omega) (cInts_to 0 rfl (by omega) (by omega))) ?_
  refine .q rfl rfl rfl rfl (q_load_i1 rfl isAgg3 rfl rfl) ?_
  refine .q rfl rfl rfl rfl (q_mv rfl (rfl : _ = V.sl _ _ _ _)) ?_
  refine .q rfl rfl rfl rfl (q_ia_s rfl underlying23 sizeOf3 rfl rfl (by omega) (by omega) (cInts_to 2 rfl (by omega) (by omega))) ?_
  refine .q rfl rfl rfl rfl (q_load_i1 rfl isAgg3 rfl rfl) ?_
  refine .q rfl rfl rfl rfl (q_eq rfl rfl rfl) ?_
  refine .q rfl rfl rfl rfl (q_mv rfl (rfl : _ = V.sl _ _ _ _)) ?_
  refine .q rfl rfl rfl rfl (q_ia_s rfl underlying23 sizeOf3 rfl rfl (by omega) (by omega) (cInts_to 3 rfl (by omega) (by omega))) ?_
  refine .q rfl rfl rfl rfl (q_load_i1 rfl isAgg3 rfl rfl) ?_
  refine .q rfl rfl rfl rfl (q_mv rfl (rfl : _ = V.sl _ _ _ _)) ?_
  refine .q rfl rfl rfl rfl (q_sliceI (l := 4) rfl underlying23 sizeOf3 rfl rfl (by omega)) ?_
  refine .q rfl rfl rfl rfl (QOp.call rfl (by exact call75) fun h' hl' => by exact refEffect_calls _ _ (by simp only [List.length_drop]; omega) h') ?_
  refine .q rfl rfl rfl rfl (q_buildS (ds := cAbil ⟨row.getD 0 0, noCost, row.getD 2 0 == 1, row.getD 3 0, effR (row.drop 4)⟩) rfl zeroValue38 underlying38 (pl38 underlying38) rfl (by kernel_rfl)) ?_
  refine AOrd.s' rfl rfl rfl (a_alloc rfl zeroValue38 rfl (fun id3 hid3 => ⟨?_, HLe.setBox hid3.1⟩))
  refine AOrd.s0 rfl rfl rfl rfl (a_storeA rfl sizeOf38 rfl (by exact bsb) (rfl : _ = V.agg _) rfl (by first | decide | exact Nat.le_of_ble_eq_true rfl) ?_)
  refine AOrd.nil ?_
  refine .seq <|
    .seq ?_
  refine AW.hp (h' := (h.setBox id2 [.int .i64 0, .int .i64 0, .int .i64 0, .int .i64 0, .int .i64 0, .int .i64 0, .int .i64 0, .bool false, .int .i64 0, .int .i64 0, .int .i64 0, .int .i64 0, .int .i64 0, .snil]).setBox id3 (cAbil ⟨row.getD 0 0, noCost, row.getD 2 0 == 1, row.getD 3 0, effR (row.drop 4)⟩)) (by rw [Hp.setBox_setBox]; rfl) ?_
  refine .region <|
    .mS rfl rfl ?_
  refine .u rfl rfl rfl (q_ia_s rfl underlying23 sizeOf3 rfl rfl (by omega) (by omega) (cInts_to 1 rfl (by omega) (by omega))) ?_
  refine .li rfl isAgg3 rfl rfl <|
    .qg rfl rfl rfl <|
    .nil ?_
  refine AW.cond rfl (fun c0 => ?_) (fun c0 => ?_)
  · have h0 : 0 ≤ row.getD 1 0 := of_decide_eq_true c0
    refine .region <|
      .mS rfl rfl ?_
    refine .u rfl rfl rfl (q_ia_s rfl underlying23 sizeOf3 rfl rfl (by omega) (by omega) (cInts_to 1 rfl (by omega) (by omega))) ?_
    refine .li rfl isAgg3 rfl rfl <|
      .fb rfl f38_1 rfl rfl ?_
    refine .u rfl rfl rfl (q_ia_ab rfl underlying33 sizeOf3 rfl rfl (by omega) (by omega)) ?_
    refine AOps.s0 rfl rfl (a_store1 rfl sizeOf3 rfl (by exact bsb) (rfl : _ = V.int _ _) rfl rfl (by first | decide | exact Nat.le_of_ble_eq_true rfl | (simp only [cAbil, List.length_cons, List.length_nil]; omega)) ?_)
    refine .nil <|
      .seq ?_
    first | refine AW.hp (h' := (h.setBox id2 _).setBox id3 (cAbil (abilR row))) (by rw [abilR, if_pos h0, Hp.setBox_setBox, abil_set h0 hr.2.2.2]) ?_ | refine AW.hp (h' := (h.setBox id2 _).setBox id3 (cAbil (abilR row))) (by rw [abilR, if_neg h0]) ?_
    refine AW.done 3 rfl hid3 ?_
    refine .region <|
      .lw rfl isAgg38 sizeOf38 rfl rfl <|
      .sw sizeOf38 rfl rfl rfl rfl <|
      .nil ?_
    refine AW.ret ?_
    exact retQ.mk' (Res.cellB isAgg38 sizeOf38 rfl (by exact bsb) rfl) (VLe.refl _) (HLe.setBox hid2.1) ⟨rfl, rfl⟩
  · have h0 : ¬ 0 ≤ row.getD 1 0 := of_decide_eq_false c0
    refine AW.skip ?_
    refine .seq ?_
    first | refine AW.hp (h' := (h.setBox id2 _).setBox id3 (cAbil (abilR row))) (by rw [abilR, if_pos h0, Hp.setBox_setBox, abil_set h0 hr.2.2.2]) ?_ | refine AW.hp (h' := (h.setBox id2 _).setBox id3 (cAbil (abilR row))) (by rw [abilR, if_neg h0]) ?_
    refine AW.done 3 rfl hid3 ?_
    refine .region <|
      .lw rfl isAgg38 sizeOf38 rfl rfl <|
      .sw sizeOf38 rfl rfl rfl rfl <|
      .nil ?_
    refine AW.ret ?_
    exact retQ.mk' (Res.cellB isAgg38 sizeOf38 rfl (by exact bsb) rfl) (VLe.refl _) (HLe.setBox hid2.1) ⟨rfl, rfl⟩

def magicRows : List (List Int) := [[0, 2, 4, 0, 0], [4, 9, 0, 0, 2], [1, 10, -2, -2, 2], [3, 1, 2, 0, 2], [1, 10, 3, 3, 2], [1, 6, 0, 0, 2], [0, 4, 2, 0, 0], [2, 19, 1, 0, 2], [1, 1, 4, 0, 2], [1, 11, 2, 0, 2], [0, 20, 1, 0, 0, 10, 1, 1, 2], [5, 7, 0, 0, 2], [2, 3, 3, 0, 2], [1, 10, 3, 0, 2], [1, 23, 64, 0, 2], [5, 8, 0, 0, 2], [0, 17, 3, 0, 0], [0, 21, 0, 0, 0, 3, 2, 0, 1, 2, 2, 0, 0], [0, 20, 0, 0, 0, 1, 2, 0, 2], [0, 14, 2, 116, 0], [0, 21, 0, 0, 0, 2, 2, 0, 0, 4, 1, 0, 0], [1, 12, 0, 0, 2], [1, 6, 0, 0, 2], [0, 1, 3, 0, 4], [0, 15, 3, 4, 0], [0, 22, 0, 10, 0, 2, 8, 0, 0, 4, 1, 0, 0], [0, 21, 0, 0, 0, 4, 3, 0, 0, 19, 1, 0, 0], [0, 5, 4, 0, 4], [3, 21, 0, 0, 0, 1, 2, 0, 2, 4, 1, 0, 0], [0, 20, 1, 0, 0, 11, 1, 0, 2]]
def relicRows8 : List (List Int) := [[5, -1, 0, 0, 20, 1, 0, 0, 10, 0, 2, 2], [5, -1, 0, 0, 20, 1, 0, 0, 23, 1, 0, 2], [5, -1, 0, 0, 20, 2, 0, 0, 10, -1, 0, 2], [5, -1, 0, 0, 20, 1, 0, 0, 10, 1, 0, 2], [5, -1, 0, 0, 20, 1, 0, 0, 10, 1, 1, 2], [4, -1, 0, 0, 2, 1, 0, 0], [4, -1, 0, 0, 17, 1, 0, 0], [4, -1, 0, 0, 3, 1, 0, 4], [4, -1, 0, 0, 1, 1, 0, 1], [4, -1, 0, 0, 15, 1, 4, 0], [1, 5, 1, 1, 10, 0, 1, 2], [1, 5, 1, 1, 12, 0, 0, 2], [1, 5, 1, 0, 3, 1, 0, 1], [1, 5, 1, 3, 1, 1, 0, 2], [1, 5, 1, 1, 13, 0, 0, 2], [5, -1, 0, 0, 20, 0, 0, 0, 25, 1, 0, 2], [1, 1, 0, 0, 13, 0, 0, 3], [5, -1, 0, 0, 20, 2, 0, 0, 24, 1, 1, 2], [3, -1, 0, 0, 1, 3, 0, 4], [2, -1, 0, 0, 14, 1, 119, 0]]
def specialRows : List (List Int) := [[2, 1, 0, 0, 0, 0, 0, -1, 0, 0, 18, 0, 0, 0], [2, 2, 0, 0, 0, 0, 0, -1, 0, 0, 19, 2, 0, 1], [2, 1, 0, 0, 0, 0, 0, -1, 0, 0, 16, 3, 0, 1], [2, 1, 1, 0, 0, 0, 0, -1, 0, 0, 17, 2, 0, 1], [2, 2, 0, 0, 0, 0, 0, -1, 0, 0, 5, 3, 0, 4], [2, 3, 1, 0, 0, 0, 0, -1, 0, 4, 9, 0, 0, 2], [2, 2, 0, 0, 0, 0, 0, -1, 0, 0, 20, 0, 0, 0, 7, 0, 0, 2], [3, 2, 0, 0, 0, 0, 1, -1, 0, 0, 15, 1, 5, 0], [1, 2, 0, 1, 1, 0, 1, 5, 0, 0, 13, 0, 0, 3], [2, 3, 0, 0, 0, 0, 0, -1, 0, 0, 14, 2, 112, 0], [2, 4, 0, 0, 0, 0, 0, -1, 0, 0, 20, 0, 0, 0, 6, 0, 0, 2], [1, 3, 1, 2, 3, 5, 3, -1, 0, 0, 4, 1, 0, 0]]
theorem refMagic_calls (h : Hp) : ACalls prog G 74 [] h fun r h' => r = .sl .full 1 magicRows.length (cRows magicRows) ∧ h' = h := by
  refine ACalls.enter func74 rfl ntmps74 results74 rfl ?_
  refine .seq <|
    .region <|
    .aN rfl rfl <|
    .nil <|
    .seq <|
    .region ?_
  refine .u rfl rfl rfl (q_buildSl rfl underlying23 sizeOf3 zeroValue3 rfl rfl rfl rfl rfl) ?_
  refine .u rfl rfl rfl (q_buildSl rfl underlying23 sizeOf3 zeroValue3 rfl rfl rfl rfl rfl) ?_
  refine .u rfl rfl rfl (q_buildSl rfl underlying23 sizeOf3 zeroValue3 rfl rfl rfl rfl rfl) ?_
  refine .u rfl rfl rfl (q_buildSl rfl underlying23 sizeOf3 zeroValue3 rfl rfl rfl rfl rfl) ?_
  refine .u rfl rfl rfl (q_buildSl rfl underlying23 sizeOf3 zeroValue3 rfl rfl rfl rfl rfl) ?_
  refine .u rfl rfl rfl (q_buildSl rfl underlying23 sizeOf3 zeroValue3 rfl rfl rfl rfl rfl) ?_
  refine .u rfl rfl rfl (q_buildSl rfl underlying23 sizeOf3 zeroValue3 rfl rfl rfl rfl rfl) ?_
  refine .u rfl rfl rfl (q_buildSl rfl underlying23 sizeOf3 zeroValue3 rfl rfl rfl rfl rfl) ?_
  refine .u rfl rfl rfl (q_buildSl rfl underlying23 sizeOf3 zeroValue3 rfl rfl rfl rfl rfl) ?_
  refine .u rfl rfl rfl (q_buildSl rfl underlying23 sizeOf3 zeroValue3 rfl rfl rfl rfl rfl) ?_
  refine .u rfl rfl rfl (q_buildSl rfl underlying23 sizeOf3 zeroValue3 rfl rfl rfl rfl rfl) ?_
  refine .u rfl rfl rfl (q_buildSl rfl underlying23 sizeOf3 zeroValue3 rfl rfl rfl rfl rfl) ?_
  refine .u rfl rfl rfl (q_buildSl rfl underlying23 sizeOf3 zeroValue3 rfl rfl rfl rfl rfl) ?_
  refine .u rfl rfl rfl (q_buildSl rfl underlying23 sizeOf3 zeroValue3 rfl rfl rfl rfl rfl) ?_
  refine .u rfl rfl rfl (q_buildSl rfl underlying23 sizeOf3 zeroValue3 rfl rfl rfl rfl rfl) ?_
  refine .u rfl rfl rfl (q_buildSl rfl underlying23 sizeOf3 zeroValue3 rfl rfl rfl rfl rfl) ?_
  refine .u rfl rfl rfl (q_buildSl rfl underlying23 sizeOf3 zeroValue3 rfl rfl rfl rfl rfl) ?_
  refine .u rfl rfl rfl (q_buildSl rfl underlying23 sizeOf3 zeroValue3 rfl rfl rfl rfl rfl) ?_
  refine .u rfl rfl rfl (q_buildSl rfl underlying23 sizeOf3 zeroValue3 rfl rfl rfl rfl rfl) ?_
  refine .u rfl rfl rfl (q_buildSl rfl underlying23 sizeOf3 zeroValue3 rfl rfl rfl rfl rfl) ?_
  refine .u rfl rfl rfl (q_buildSl rfl underlying23 sizeOf3 zeroValue3 rfl rfl rfl rfl rfl) ?_
  refine .u rfl rfl rfl (q_buildSl rfl underlying23 sizeOf3 zeroValue3 rfl rfl rfl rfl rfl) ?_
  refine .u rfl rfl rfl (q_buildSl rfl underlying23 sizeOf3 zeroValue3 rfl rfl rfl rfl rfl) ?_
  refine .u rfl rfl rfl (q_buildSl rfl underlying23 sizeOf3 zeroValue3 rfl rfl rfl rfl rfl) ?_
  refine .u rfl rfl rfl (q_buildSl rfl underlying23 sizeOf3 zeroValue3 rfl rfl rfl rfl rfl) ?_
  refine .u rfl rfl rfl (q_buildSl rfl underlying23 sizeOf3 zeroValue3 rfl rfl rfl rfl rfl) ?_
  refine .u rfl rfl rfl (q_buildSl rfl underlying23 sizeOf3 zeroValue3 rfl rfl rfl rfl rfl) ?_
  refine .u rfl rfl rfl (q_buildSl rfl underlying23 sizeOf3 zeroValue3 rfl rfl rfl rfl rfl) ?_
  refine .u rfl rfl rfl (q_buildSl rfl underlying23 sizeOf3 zeroValue3 rfl rfl rfl rfl rfl) ?_
  refine .u rfl rfl rfl (q_buildSl rfl underlying23 sizeOf3 zeroValue3 rfl rfl rfl rfl rfl) ?_
  refine .u rfl rfl rfl (q_buildSl (ds := cRows magicRows) rfl underlying120 sizeOf23 zeroValue23 rfl rfl rfl rfl (by kernel_rfl)) ?_
  refine .aS rfl rfl <|
    .nil ?_
  refine AW.ret ?_
  exact retQ.mk (.one _) ⟨rfl, rfl⟩

theorem refRelic_calls (h : Hp) : ACalls prog G 77 [] h fun r h' => r = .sl .full 1 relicRows8.length (cRows relicRows8) ∧ h' = h := by
  refine ACalls.enter func77 rfl ntmps77 results77 rfl ?_
  refine .seq <|
    .region <|
    .aN rfl rfl <|
    .nil <|
    .seq <|
    .region ?_
  refine .u rfl rfl rfl (q_buildSl rfl underlying23 sizeOf3 zeroValue3 rfl rfl rfl rfl rfl) ?_
  refine .u rfl rfl rfl (q_buildSl rfl underlying23 sizeOf3 zeroValue3 rfl rfl rfl rfl rfl) ?_
  refine .u rfl rfl rfl (q_buildSl rfl underlying23 sizeOf3 zeroValue3 rfl rfl rfl rfl rfl) ?_
  refine .u rfl rfl rfl (q_buildSl rfl underlying23 sizeOf3 zeroValue3 rfl rfl rfl rfl rfl) ?_
  refine .u rfl rfl rfl (q_buildSl rfl underlying23 sizeOf3 zeroValue3 rfl rfl rfl rfl rfl) ?_
  refine .u rfl rfl rfl (q_buildSl rfl underlying23 sizeOf3 zeroValue3 rfl rfl rfl rfl rfl) ?_
  refine .u rfl rfl rfl (q_buildSl rfl underlying23 sizeOf3 zeroValue3 rfl rfl rfl rfl rfl) ?_
  refine .u rfl rfl rfl (q_buildSl rfl underlying23 sizeOf3 zeroValue3 rfl rfl rfl rfl rfl) ?_
  refine .u rfl rfl rfl (q_buildSl rfl underlying23 sizeOf3 zeroValue3 rfl rfl rfl rfl rfl) ?_
  refine .u rfl rfl rfl (q_buildSl rfl underlying23 sizeOf3 zeroValue3 rfl rfl rfl rfl rfl) ?_
  refine .u rfl rfl rfl (q_buildSl rfl underlying23 sizeOf3 zeroValue3 rfl rfl rfl rfl rfl) ?_
  refine .u rfl rfl rfl (q_buildSl rfl underlying23 sizeOf3 zeroValue3 rfl rfl rfl rfl rfl) ?_
  refine .u rfl rfl rfl (q_buildSl rfl underlying23 sizeOf3 zeroValue3 rfl rfl rfl rfl rfl) ?_
  refine .u rfl rfl rfl (q_buildSl rfl underlying23 sizeOf3 zeroValue3 rfl rfl rfl rfl rfl) ?_
  refine .u rfl rfl rfl (q_buildSl rfl underlying23 sizeOf3 zeroValue3 rfl rfl rfl rfl rfl) ?_
  refine .u rfl rfl rfl (q_buildSl rfl underlying23 sizeOf3 zeroValue3 rfl rfl rfl rfl rfl) ?_
  refine .u rfl rfl rfl (q_buildSl rfl underlying23 sizeOf3 zeroValue3 rfl rfl rfl rfl rfl) ?_
  refine .u rfl rfl rfl (q_buildSl rfl underlying23 sizeOf3 zeroValue3 rfl rfl rfl rfl rfl) ?_
  refine .u rfl rfl rfl (q_buildSl rfl underlying23 sizeOf3 zeroValue3 rfl rfl rfl rfl rfl) ?_
  refine .u rfl rfl rfl (q_buildSl rfl underlying23 sizeOf3 zeroValue3 rfl rfl rfl rfl rfl) ?_
  refine .u rfl rfl rfl (q_buildSl (ds := cRows relicRows8) rfl underlying120 sizeOf23 zeroValue23 rfl rfl rfl rfl (by kernel_rfl)) ?_
  refine .aS rfl rfl <|
    .nil ?_
  refine AW.ret ?_
  exact retQ.mk (.one _) ⟨rfl, rfl⟩

theorem refSpecial_calls (h : Hp) : ACalls prog G 78 [] h fun r h' => r = .sl .full 1 specialRows.length (cRows specialRows) ∧ h' = h := by
  refine ACalls.enter func78 rfl ntmps78 results78 rfl ?_
  refine .seq <|
    .region <|
    .aN rfl rfl <|
    .nil <|
    .seq <|
    .region ?_
  refine .u rfl rfl rfl (q_buildSl rfl underlying23 sizeOf3 zeroValue3 rfl rfl rfl rfl rfl) ?_
  refine .u rfl rfl rfl (q_buildSl rfl underlying23 sizeOf3 zeroValue3 rfl rfl rfl rfl rfl) ?_
  refine .u rfl rfl rfl (q_buildSl rfl underlying23 sizeOf3 zeroValue3 rfl rfl rfl rfl rfl) ?_
  refine .u rfl rfl rfl (q_buildSl rfl underlying23 sizeOf3 zeroValue3 rfl rfl rfl rfl rfl) ?_
  refine .u rfl rfl rfl (q_buildSl rfl underlying23 sizeOf3 zeroValue3 rfl rfl rfl rfl rfl) ?_
  refine .u rfl rfl rfl (q_buildSl rfl underlying23 sizeOf3 zeroValue3 rfl rfl rfl rfl rfl) ?_
  refine .u rfl rfl rfl (q_buildSl rfl underlying23 sizeOf3 zeroValue3 rfl rfl rfl rfl rfl) ?_
  refine .u rfl rfl rfl (q_buildSl rfl underlying23 sizeOf3 zeroValue3 rfl rfl rfl rfl rfl) ?_
  refine .u rfl rfl rfl (q_buildSl rfl underlying23 sizeOf3 zeroValue3 rfl rfl rfl rfl rfl) ?_
  refine .u rfl rfl rfl (q_buildSl rfl underlying23 sizeOf3 zeroValue3 rfl rfl rfl rfl rfl) ?_
  refine .u rfl rfl rfl (q_buildSl rfl underlying23 sizeOf3 zeroValue3 rfl rfl rfl rfl rfl) ?_
  refine .u rfl rfl rfl (q_buildSl rfl underlying23 sizeOf3 zeroValue3 rfl rfl rfl rfl rfl) ?_
  refine .u rfl rfl rfl (q_buildSl (ds := cRows specialRows) rfl underlying120 sizeOf23 zeroValue23 rfl rfl rfl rfl (by kernel_rfl)) ?_
  refine .aS rfl rfl <|
    .nil ?_
  refine AW.ret ?_
  exact retQ.mk (.one _) ⟨rfl, rfl⟩

end Go.Proofs.YtagcjkbogaoifaaGreatDoor
