/- Walks: the ranges of a state's numbers. -/
import Derived.Test.YtnbmcbkokaoapaaGreatDoorChk1
namespace Go.Proofs.YtnbmcbkokaoapaaGreatDoor
open Go Go.AV
set_option maxRecDepth 100000
set_option maxHeartbeats 400000
def objOk (m : Int) (o : Obj) : Bool := (List.range 18).all fun f => inB (o f) (oLo m f) (oHi m f)
def plOk (p : Nat → Int) : Bool := (List.range 9).all fun f => inB (p f) (pLo f) (pHi f)
def gameOk (g : Nat → Int) : Bool := (List.range 7).all fun f => inB (g f) 0 (gHi f)
def rangesF (s : St) : Bool := s.objs.all (objOk s.objs.length) && (List.range 2).all (fun p => plOk (s.pl p)) && gameOk s.game
theorem all_up {p : Nat → Bool} {n : Nat} : (List.range n).all p = true ↔ ∀ j, j < n → p j = true := by simp [List.all_eq_true]
theorem all_step {p : Nat → Bool} {i : Nat} (h : ∀ j, j < i → p j = true) (hp : p i = true) : ∀ j, j < i + 1 → p j = true := fun j hj => by
  rcases Nat.lt_succ_iff_lt_or_eq.1 hj with e | e
  · exact h j e
  · subst e; exact hp
theorem objs_all {l : List Obj} {p : Obj → Bool} : l.all p = true ↔ ∀ j, j < l.length → p (l.getD j noObj) = true := by
  rw [List.all_eq_true]
  refine ⟨fun h j hj => h _ (by rw [List.getD_eq_getElem?_getD, List.getElem?_eq_getElem hj]; exact List.getElem_mem _), fun h x hx => ?_⟩
  obtain ⟨j, hj, rfl⟩ := List.getElem_of_mem hx
  have := h j hj
  rwa [List.getD_eq_getElem?_getD, List.getElem?_eq_getElem hj] at this
theorem objs_bad {l : List Obj} {p : Obj → Bool} {j : Nat} (hj : j < l.length) (hp : p (l.getD j noObj) = false) : l.all p = false := by
  cases e : l.all p with
  | false => rfl
  | true => rw [objs_all.1 e j hj] at hp; cases hp
theorem all_bad {p : Nat → Bool} {n j : Nat} (hj : j < n) (hp : p j = false) : (List.range n).all p = false := by
  cases e : (List.range n).all p with
  | false => rfl
  | true => rw [all_up.1 e j hj] at hp; cases hp
theorem bnds_at {lo hi : Nat → Int} {n f : Nat} (h : f < n) : ((bnds lo hi 0 n).drop ((f : Int).toNat * 2)).take 2 = [.int .i64 (lo f), .int .i64 (hi f)] := by
  rw [Int.toNat_natCast, bnds_ix _ _ _ _ _ h, Nat.zero_add]
def plRow (g : Nat → Int) : List V := [.int .i64 (g 0), .int .i64 (g 1), .int .i64 (g 2), .int .i64 (g 3), .int .i64 (g 4), .int .i64 (g 5), .int .i64 (g 6), .int .i64 (g 7), .int .i64 (g 8)]
theorem pl_at {s : St} {p : Nat} (h : p < 2) : ((((cState s).drop 12).take 18).drop ((p : Int).toNat * 9)).take 9 = plRow (s.pl p) := by
  match p, h with
  | 0, _ | 1, _ => rfl
theorem plRow_at {g : Nat → Int} {k : Nat} (h : k < 9) : ((plRow g).drop ((k : Int).toNat * 1))[0]? = some (.int .i64 (g k)) := by
  match k, h with
  | 0, _ | 1, _ | 2, _ | 3, _ | 4, _ | 5, _ | 6, _ | 7, _ | 8, _ => rfl
theorem game_at {s : St} {k : Nat} (h : k < 7) : (((cState s).drop 30).drop ((k : Int).toNat * 1))[0]? = some (.int .i64 (s.game k)) := by
  match k, h with
  | 0, _ | 1, _ | 2, _ | 3, _ | 4, _ | 5, _ | 6, _ => rfl

theorem ranges_calls (s : St) (hb : s.objs.length ≤ 1000000) (h : Hp) : ACalls Tryz.prog G 50 [eState s] h fun r h' => r = .bool (rangesF s) ∧ h' = h := by
  refine ACalls.enter Tryz.func50 rfl Tryz.ntmps50 Tryz.results50 rfl ?_
  refine AW.seq ?_
  refine AW.region ?_
  refine AOps.q rfl rfl rfl (q_boxa rfl (rfl : _ = V.agg _)) ?_
  refine AOps.q rfl rfl rfl (q_as rfl (rfl : _ = V.bool _)) ?_
  refine AOps.nil ?_
  refine AW.seq ?_
  refine AW.region ?_
  refine AOps.q rfl rfl rfl (q_fa_i rfl Tryz.underlying29 rfl (by exact Tryz.sizeOf22) (by decide) rfl (rfl : _ = List.drop 0 _)) ?_
  refine AOps.q rfl rfl rfl (q_load_i1 rfl Tryz.isAgg22 rfl rfl) ?_
  refine AOps.q rfl rfl rfl (q_len rfl Tryz.underlying22 rfl) ?_
  refine AOps.q rfl rfl rfl (QOp.call rfl (by exact Tryz.call70) fun h' hl' => by exact objects_calls _ h') ?_
  refine AOps.s rfl rfl rfl (a_alloc rfl Tryz.zeroValue114 rfl (fun id3 hid3 => ?_))
  refine AOps.s0 rfl rfl (a_storeWA rfl Tryz.sizeOf114 rfl rfl (rfl : _ = V.agg _) rfl rfl ?_)
  refine AOps.done 3 rfl hid3 ?_
  refine AOps.nil ?_
  refine AW.seq ?_
  refine AW.seq ?_
  refine AW.region ?_
  refine AOps.q rfl rfl rfl (q_fa_i rfl Tryz.underlying29 rfl (by exact Tryz.sizeOf22) (by decide) rfl (rfl : _ = List.drop 0 _)) ?_
  refine AOps.q rfl rfl rfl (q_load_i1 rfl Tryz.isAgg22 rfl rfl) ?_
  refine AOps.q rfl rfl rfl (q_len rfl Tryz.underlying22 rfl) ?_
  refine AOps.q rfl rfl rfl (q_mv rfl (rfl : _ = V.int _ _)) ?_
  refine AOps.nil ?_
  refine AW.block ?_
  refine AW.loop (fun n T hh => ∃ (i : Nat) , i ≤ s.objs.length ∧ n = s.objs.length - i ∧ T = put (put (put (put (put (T0) 21 (V.int .i64 (i : Nat))) 20 (V.int .i64 s.objs.length)) 19 (eObjs s.objs)) 3 (V.iptr (bnds (oLo s.objs.length) (oHi s.objs.length) 0 18))) 1 (V.iptr (cState s)) ∧ hh = h ∧ ∀ j, j < i → objOk s.objs.length (s.objs.getD j noObj) = true) (s.objs.length) ?_ ?_
  · skip
    refine Wk.mk (TLe.put (d := 1) (VLe.refl _) (TLe.put (d := 3) (VLe.refl _) (TLe.put (d := 19) (VLe.refl _) (TLe.put (d := 20) (VLe.refl _) (TLe.put (d := 21) (by exact VLe.of_eq (congrArg (V.int .i64) (by first | rfl | omega))) (TLe.zero _)))))) (HLe.refl _) ⟨0, Nat.zero_le _, rfl, rfl, rfl, fun j hj => by omega⟩
  · skip
    rintro n T h' ⟨i, hi, rfl, rfl, rfl, hn⟩
    refine AW.seq ?_
    refine AW.region ?_
    refine AOps.q rfl rfl rfl (q_lt rfl rfl rfl) ?_
    refine AOps.nil ?_
    refine AW.seq ?_
    refine AW.cond rfl (fun c0 => ?_) (fun c0 => ?_)
    · have hlt : i < s.objs.length := by have := of_decide_eq_true c0; omega
      refine AW.skip ?_
      refine AW.seq ?_
      refine AW.block ?_
      refine AW.seq ?_
      refine AW.region ?_
      refine AOps.q rfl rfl rfl (q_ia_s rfl Tryz.underlying22 Tryz.sizeOf49 rfl rfl (by omega) (by omega) (cObjs_elem' (by omega) (by omega))) ?_
      refine AOps.q rfl rfl rfl (q_load_iW rfl Tryz.isAgg49 Tryz.sizeOf49 rfl (by rfl)) ?_
      refine AOps.s rfl rfl rfl (a_alloc rfl Tryz.zeroValue49 rfl (fun id5 hid5 => ?_))
      refine AOps.s0 rfl rfl (a_storeWA rfl Tryz.sizeOf49 rfl rfl (rfl : _ = V.agg _) rfl rfl ?_)
      refine AOps.done 5 rfl hid5 ?_
      refine AOps.nil ?_
      refine AW.seq ?_
      refine AW.region ?_
      refine AOps.q rfl rfl rfl (q_load_iW rfl Tryz.isAgg49 Tryz.sizeOf49 rfl (by rfl)) ?_
      refine AOps.q rfl rfl rfl (q_mv rfl (rfl : _ = V.int _ _)) ?_
      refine AOps.nil ?_
      refine AW.block ?_
      refine AW.loop (fun n T hh => ∃ (f : Nat) , f ≤ 18 ∧ n = 18 - f ∧ T = put (put (put (put (put (put (put (T0) 26 (V.int .i64 (f : Nat))) 25 (eObj (s.objs.getD i noObj))) 21 (V.int .i64 (i : Nat))) 20 (V.int .i64 s.objs.length)) 19 (eObjs s.objs)) 3 (V.iptr (bnds (oLo s.objs.length) (oHi s.objs.length) 0 18))) 1 (V.iptr (cState s)) ∧ hh = h' ∧ ∀ g, g < f → inB (s.objs.getD i noObj g) (oLo s.objs.length g) (oHi s.objs.length g) = true) (18) ?_ ?_
      · skip
        refine Wk.mk (TLe.put (d := 1) (VLe.refl _) (TLe.put (d := 3) (VLe.refl _) (TLe.put (d := 19) (VLe.refl _) (TLe.put (d := 20) (VLe.refl _) (TLe.put (d := 21) (VLe.refl _) (TLe.put (d := 25) (VLe.refl _) (TLe.put (d := 26) (by exact VLe.of_eq (congrArg (V.int .i64) (by first | rfl | omega))) (TLe.zero _)))))))) (HLe.refl _) ⟨0, Nat.zero_le _, rfl, rfl, rfl, fun j hj => by omega⟩
      · skip
        rintro n T h' ⟨f, hf, rfl, rfl, rfl, hf⟩
        refine AW.seq ?_
        refine AW.region ?_
        refine AOps.q rfl rfl rfl (q_lt rfl rfl rfl) ?_
        refine AOps.nil ?_
        refine AW.seq ?_
        refine AW.cond rfl (fun c1 => ?_) (fun c1 => ?_)
        · have hltf : f < 18 := by have := of_decide_eq_true c1; omega
          refine AW.skip ?_
          refine AW.seq ?_
          refine AW.block ?_
          refine AW.seq ?_
          refine AW.region ?_
          refine AOps.q rfl rfl rfl (q_mv rfl (rfl : _ = V.int _ _)) ?_
          refine AOps.q rfl rfl rfl (q_ix1 rfl Tryz.underlying49 Tryz.sizeOf3 Tryz.isAgg3 rfl rfl (by omega) (by omega) (obj_ix (by omega) (by omega))) ?_
          refine AOps.q rfl rfl rfl (q_as rfl (rfl : _ = V.int _ _)) ?_
          refine AOps.q rfl rfl rfl (q_as rfl (rfl : _ = V.int _ _)) ?_
          refine AOps.nil ?_
          refine AW.seq ?_
          refine AW.region ?_
          refine AOps.q rfl rfl rfl (q_mv rfl (rfl : _ = V.int _ _)) ?_
          refine AOps.q rfl rfl rfl (q_ia_ai rfl Tryz.underlying114 Tryz.sizeOf113 rfl rfl (by omega) (by omega) rfl) ?_
          refine AOps.q rfl rfl rfl (q_load_iN (ds := [V.int .i64 (oLo s.objs.length f), V.int .i64 (oHi s.objs.length f)]) rfl Tryz.isAgg113 Tryz.sizeOf113 rfl rfl (bnds_at hltf)) ?_
          refine AOps.q rfl rfl rfl (q_mv rfl (rfl : _ = V.int _ _)) ?_
          refine AOps.q rfl rfl rfl (QOp.call rfl (by exact Tryz.call71) fun h' hl' => by exact has_calls _ _ _ h') ?_
          refine AOps.q rfl rfl rfl (q_not rfl rfl) ?_
          refine AOps.nil ?_
          refine AW.cond rfl (fun c2 => ?_) (fun c2 => ?_)
          · skip
            refine AW.seq ?_
            refine AW.region ?_
            refine AOps.q rfl rfl rfl (q_as rfl (rfl : _ = V.bool _)) ?_
            refine AOps.nil ?_
            refine AW.ret ?_
            exact retQ.mk' (.one _) (VLe.of_eq (congrArg V.bool (by rw [rangesF, objs_bad hlt (all_bad hltf (by simpa using c2))]; rfl))) (HLe.refl _) ⟨rfl, rfl⟩
          · skip
            refine AW.skip ?_
            refine AW.region ?_
            refine AOps.q rfl rfl rfl (q_add' rfl rfl rfl (by omega)) ?_
            refine AOps.q rfl rfl rfl (q_mv rfl (rfl : _ = V.int _ _)) ?_
            refine AOps.nil ?_
            refine Wk.mk (TLe.put (d := 1) (VLe.refl _) (TLe.put (d := 3) (VLe.refl _) (TLe.put (d := 19) (VLe.refl _) (TLe.put (d := 20) (VLe.refl _) (TLe.put (d := 21) (VLe.refl _) (TLe.put (d := 25) (VLe.refl _) (TLe.put (d := 26) (by exact VLe.of_eq (congrArg (V.int .i64) (by first | rfl | omega))) (TLe.zero _)))))))) (HLe.refl _) ⟨_, ?_, f + 1, ?_, rfl, rfl, rfl, all_step hf (by simpa using c2)⟩
            · omega
            · omega
        · obtain rfl : f = 18 := by have := of_decide_eq_false c1; omega
          refine AW.exit ?_
          refine AW.region ?_
          refine AOps.q rfl rfl rfl (q_add' rfl rfl rfl (by omega)) ?_
          refine AOps.q rfl rfl rfl (q_mv rfl (rfl : _ = V.int _ _)) ?_
          refine AOps.nil ?_
          refine Wk.mk (TLe.put (d := 1) (VLe.refl _) (TLe.put (d := 3) (VLe.refl _) (TLe.put (d := 19) (VLe.refl _) (TLe.put (d := 20) (VLe.refl _) (TLe.put (d := 21) (by exact VLe.of_eq (congrArg (V.int .i64) (by first | rfl | omega))) (TLe.zero _)))))) (HLe.refl _) ⟨_, ?_, i + 1, ?_, rfl, rfl, rfl, all_step hn (all_up.2 hf)⟩
          · omega
          · omega
    · obtain rfl : i = s.objs.length := by have := of_decide_eq_false c0; omega
      refine AW.exit ?_
      refine AW.seq ?_
      refine AW.seq ?_
      refine AW.region ?_
      refine AOps.q rfl rfl rfl (q_fa_i rfl Tryz.underlying29 rfl (by exact Tryz.sizeOf26) (by decide) rfl (rfl : _ = List.drop 12 _)) ?_
      refine AOps.q rfl rfl rfl (q_load_iN rfl Tryz.isAgg26 Tryz.sizeOf26 rfl (by rfl) rfl) ?_
      refine AOps.q rfl rfl rfl (q_mv rfl (rfl : _ = V.int _ _)) ?_
      refine AOps.nil ?_
      refine AW.block ?_
      refine AW.loop (fun n T hh => ∃ (p : Nat) , p ≤ 2 ∧ n = 2 - p ∧ T = put (put (put (T0) 40 (V.int .i64 (p : Nat))) 39 (V.agg (((cState s).drop 12).take 18))) 1 (V.iptr (cState s)) ∧ hh = h' ∧ ∀ j, j < p → plOk (s.pl j) = true) (2) ?_ ?_
      · skip
        refine Wk.mk (TLe.put (d := 1) (VLe.refl _) (TLe.put (d := 39) (VLe.refl _) (TLe.put (d := 40) (by exact VLe.of_eq (congrArg (V.int .i64) (by first | rfl | omega))) (TLe.zero _)))) (HLe.refl _) ⟨0, Nat.zero_le _, rfl, rfl, rfl, fun j hj => by omega⟩
      · skip
        rintro n T h' ⟨p, hp, rfl, rfl, rfl, hp⟩
        refine AW.seq ?_
        refine AW.region ?_
        refine AOps.q rfl rfl rfl (q_lt rfl rfl rfl) ?_
        refine AOps.nil ?_
        refine AW.seq ?_
        refine AW.cond rfl (fun c3 => ?_) (fun c3 => ?_)
        · have hltp : p < 2 := by have := of_decide_eq_true c3; omega
          refine AW.skip ?_
          refine AW.seq ?_
          refine AW.block ?_
          refine AW.seq ?_
          refine AW.region ?_
          refine AOps.q rfl rfl rfl (q_ixN rfl Tryz.underlying26 Tryz.sizeOf25 Tryz.isAgg25 rfl rfl (by omega) (by omega) (pl_at hltp)) ?_
          refine AOps.s rfl rfl rfl (a_alloc rfl Tryz.zeroValue25 rfl (fun id9 hid9 => ?_))
          refine AOps.s0 rfl rfl (a_storeWA rfl Tryz.sizeOf25 rfl rfl (rfl : _ = V.agg _) rfl rfl ?_)
          refine AOps.done 9 rfl hid9 ?_
          refine AOps.nil ?_
          refine AW.seq ?_
          refine AW.region ?_
          refine AOps.q rfl rfl rfl (QOp.call rfl (by exact Tryz.call72) fun h' hl' => by exact players_calls h') ?_
          refine AOps.q rfl rfl rfl (q_mv rfl (rfl : _ = V.int _ _)) ?_
          refine AOps.nil ?_
          refine AW.block ?_
          refine AW.loop (fun n T hh => ∃ (k : Nat) , k ≤ 9 ∧ n = 9 - k ∧ T = put (put (put (put (put (put (T0) 44 (V.int .i64 (k : Nat))) 43 (V.agg (bnds pLo pHi 0 9))) 9 (V.iptr (plRow (s.pl p)))) 40 (V.int .i64 (p : Nat))) 39 (V.agg (((cState s).drop 12).take 18))) 1 (V.iptr (cState s)) ∧ hh = h' ∧ ∀ j, j < k → inB (s.pl p j) (pLo j) (pHi j) = true) (9) ?_ ?_
          · skip
            refine Wk.mk (TLe.put (d := 1) (VLe.refl _) (TLe.put (d := 39) (VLe.refl _) (TLe.put (d := 40) (VLe.refl _) (TLe.put (d := 9) (VLe.refl _) (TLe.put (d := 43) (VLe.refl _) (TLe.put (d := 44) (by exact VLe.of_eq (congrArg (V.int .i64) (by first | rfl | omega))) (TLe.zero _))))))) (HLe.refl _) ⟨0, Nat.zero_le _, rfl, rfl, rfl, fun j hj => by omega⟩
          · skip
            rintro n T h' ⟨k, hk, rfl, rfl, rfl, hk⟩
            refine AW.seq ?_
            refine AW.region ?_
            refine AOps.q rfl rfl rfl (q_lt rfl rfl rfl) ?_
            refine AOps.nil ?_
            refine AW.seq ?_
            refine AW.cond rfl (fun c4 => ?_) (fun c4 => ?_)
            · have hltk : k < 9 := by have := of_decide_eq_true c4; omega
              refine AW.skip ?_
              refine AW.seq ?_
              refine AW.block ?_
              refine AW.seq ?_
              refine AW.region ?_
              refine AOps.q rfl rfl rfl (q_mv rfl (rfl : _ = V.int _ _)) ?_
              refine AOps.q rfl rfl rfl (q_ixN rfl Tryz.underlying117 Tryz.sizeOf113 Tryz.isAgg113 rfl rfl (by omega) (by omega) (bnds_at hltk)) ?_
              refine AOps.s rfl rfl rfl (a_alloc rfl Tryz.zeroValue113 rfl (fun id11 hid11 => ?_))
              refine AOps.q rfl rfl rfl (q_as rfl (rfl : _ = V.int _ _)) ?_
              refine AOps.s0 rfl rfl (a_storeWA rfl Tryz.sizeOf113 rfl rfl (rfl : _ = V.agg _) rfl rfl ?_)
              refine AOps.done 11 rfl hid11 ?_
              refine AOps.nil ?_
              refine AW.seq ?_
              refine AW.draw [] [] [(0, true), (1, true), (2, true), (3, true), (4, true), (5, true)] mixed (by kernel_rfl) rfl (by kernel_rfl) ?_
              refine AOrd.q rfl rfl rfl rfl (q_load_iW rfl Tryz.isAgg113 Tryz.sizeOf113 rfl (by rfl)) ?_
              refine AOrd.q rfl rfl rfl rfl (q_mv rfl (rfl : _ = V.int _ _)) ?_
              refine AOrd.q rfl rfl rfl rfl (q_ia_ai rfl Tryz.underlying25 Tryz.sizeOf3 rfl rfl (by omega) (by omega) rfl) ?_
              refine AOrd.q rfl rfl rfl rfl (q_load_i1 rfl Tryz.isAgg3 rfl (plRow_at hltk)) ?_
              refine AOrd.q rfl rfl rfl rfl (QOp.call rfl (by exact Tryz.call71) fun h' hl' => by exact has_calls _ _ _ h') ?_
              refine AOrd.q rfl rfl rfl rfl (q_not rfl rfl) ?_
              refine AOrd.nil ?_
              refine AW.cond rfl (fun c5 => ?_) (fun c5 => ?_)
              · skip
                refine AW.seq ?_
                refine AW.region ?_
                refine AOps.q rfl rfl rfl (q_as rfl (rfl : _ = V.bool _)) ?_
                refine AOps.nil ?_
                refine AW.ret ?_
                exact retQ.mk' (.one _) (VLe.of_eq (congrArg V.bool (by rw [rangesF, all_bad (j := p) hltp (all_bad hltk (by simpa using c5))]; simp))) (HLe.refl _) ⟨rfl, rfl⟩
              · skip
                refine AW.skip ?_
                refine AW.region ?_
                refine AOps.q rfl rfl rfl (q_add' rfl rfl rfl (by omega)) ?_
                refine AOps.q rfl rfl rfl (q_mv rfl (rfl : _ = V.int _ _)) ?_
                refine AOps.nil ?_
                refine Wk.mk (TLe.put (d := 1) (VLe.refl _) (TLe.put (d := 39) (VLe.refl _) (TLe.put (d := 40) (VLe.refl _) (TLe.put (d := 9) (VLe.refl _) (TLe.put (d := 43) (VLe.refl _) (TLe.put (d := 44) (by exact VLe.of_eq (congrArg (V.int .i64) (by first | rfl | omega))) (TLe.zero _))))))) (HLe.refl _) ⟨_, ?_, k + 1, ?_, rfl, rfl, rfl, all_step hk (by simpa using c5)⟩
                · omega
                · omega
            · obtain rfl : k = 9 := by have := of_decide_eq_false c4; omega
              refine AW.exit ?_
              refine AW.region ?_
              refine AOps.q rfl rfl rfl (q_add' rfl rfl rfl (by omega)) ?_
              refine AOps.q rfl rfl rfl (q_mv rfl (rfl : _ = V.int _ _)) ?_
              refine AOps.nil ?_
              refine Wk.mk (TLe.put (d := 1) (VLe.refl _) (TLe.put (d := 39) (VLe.refl _) (TLe.put (d := 40) (by exact VLe.of_eq (congrArg (V.int .i64) (by first | rfl | omega))) (TLe.zero _)))) (HLe.refl _) ⟨_, ?_, p + 1, ?_, rfl, rfl, rfl, all_step hp (all_up.2 hk)⟩
              · omega
              · omega
        · obtain rfl : p = 2 := by have := of_decide_eq_false c3; omega
          refine AW.exit ?_
          refine AW.seq ?_
          refine AW.seq ?_
          refine AW.region ?_
          refine AOps.q rfl rfl rfl (QOp.call rfl (by exact Tryz.call73) fun h' hl' => by exact game_calls h') ?_
          refine AOps.q rfl rfl rfl (q_mv rfl (rfl : _ = V.int _ _)) ?_
          refine AOps.nil ?_
          refine AW.block ?_
          refine AW.loop (fun n T hh => ∃ (q : Nat) , q ≤ 7 ∧ n = 7 - q ∧ T = put (put (put (T0) 57 (V.int .i64 (q : Nat))) 56 (V.agg (bnds (fun _ => 0) gHi 0 7))) 1 (V.iptr (cState s)) ∧ hh = h' ∧ ∀ j, j < q → inB (s.game j) 0 (gHi j) = true) (7) ?_ ?_
          · skip
            refine Wk.mk (TLe.put (d := 1) (VLe.refl _) (TLe.put (d := 56) (VLe.refl _) (TLe.put (d := 57) (by exact VLe.of_eq (congrArg (V.int .i64) (by first | rfl | omega))) (TLe.zero _)))) (HLe.refl _) ⟨0, Nat.zero_le _, rfl, rfl, rfl, fun j hj => by omega⟩
          · skip
            rintro n T h' ⟨q, hq, rfl, rfl, rfl, hq⟩
            refine AW.seq ?_
            refine AW.region ?_
            refine AOps.q rfl rfl rfl (q_lt rfl rfl rfl) ?_
            refine AOps.nil ?_
            refine AW.seq ?_
            refine AW.cond rfl (fun c6 => ?_) (fun c6 => ?_)
            · have hltq : q < 7 := by have := of_decide_eq_true c6; omega
              refine AW.skip ?_
              refine AW.seq ?_
              refine AW.block ?_
              refine AW.seq ?_
              refine AW.region ?_
              refine AOps.q rfl rfl rfl (q_mv rfl (rfl : _ = V.int _ _)) ?_
              refine AOps.q rfl rfl rfl (q_ixN rfl Tryz.underlying119 Tryz.sizeOf113 Tryz.isAgg113 rfl rfl (by omega) (by omega) (bnds_at hltq)) ?_
              refine AOps.s rfl rfl rfl (a_alloc rfl Tryz.zeroValue113 rfl (fun id13 hid13 => ?_))
              refine AOps.q rfl rfl rfl (q_as rfl (rfl : _ = V.int _ _)) ?_
              refine AOps.s0 rfl rfl (a_storeWA rfl Tryz.sizeOf113 rfl rfl (rfl : _ = V.agg _) rfl rfl ?_)
              refine AOps.done 13 rfl hid13 ?_
              refine AOps.nil ?_
              refine AW.seq ?_
              refine AW.draw [] [] [(0, true), (1, true), (2, true), (3, true), (4, true), (5, true), (6, true)] mixed (by kernel_rfl) rfl (by kernel_rfl) ?_
              refine AOrd.q rfl rfl rfl rfl (q_load_iW rfl Tryz.isAgg113 Tryz.sizeOf113 rfl (by rfl)) ?_
              refine AOrd.q rfl rfl rfl rfl (q_mv rfl (rfl : _ = V.int _ _)) ?_
              refine AOrd.q rfl rfl rfl rfl (q_fa_i rfl Tryz.underlying29 rfl (by exact Tryz.sizeOf27) (by decide) rfl (rfl : _ = List.drop 30 _)) ?_
              refine AOrd.q rfl rfl rfl rfl (q_ia_ai rfl Tryz.underlying27 Tryz.sizeOf3 rfl rfl (by omega) (by omega) rfl) ?_
              refine AOrd.q rfl rfl rfl rfl (q_load_i1 rfl Tryz.isAgg3 rfl (game_at hltq)) ?_
              refine AOrd.q rfl rfl rfl rfl (QOp.call rfl (by exact Tryz.call71) fun h' hl' => by exact has_calls _ _ _ h') ?_
              refine AOrd.q rfl rfl rfl rfl (q_not rfl rfl) ?_
              refine AOrd.nil ?_
              refine AW.cond rfl (fun c7 => ?_) (fun c7 => ?_)
              · skip
                refine AW.seq ?_
                refine AW.region ?_
                refine AOps.q rfl rfl rfl (q_as rfl (rfl : _ = V.bool _)) ?_
                refine AOps.nil ?_
                refine AW.ret ?_
                exact retQ.mk' (.one _) (VLe.of_eq (congrArg V.bool (by rw [rangesF, gameOk, all_bad hltq (by simpa using c7)]; simp))) (HLe.refl _) ⟨rfl, rfl⟩
              · skip
                refine AW.skip ?_
                refine AW.region ?_
                refine AOps.q rfl rfl rfl (q_add' rfl rfl rfl (by omega)) ?_
                refine AOps.q rfl rfl rfl (q_mv rfl (rfl : _ = V.int _ _)) ?_
                refine AOps.nil ?_
                refine Wk.mk (TLe.put (d := 1) (VLe.refl _) (TLe.put (d := 56) (VLe.refl _) (TLe.put (d := 57) (by exact VLe.of_eq (congrArg (V.int .i64) (by first | rfl | omega))) (TLe.zero _)))) (HLe.refl _) ⟨_, ?_, q + 1, ?_, rfl, rfl, rfl, all_step hq (by simpa using c7)⟩
                · omega
                · omega
            · obtain rfl : q = 7 := by have := of_decide_eq_false c6; omega
              refine AW.exit ?_
              refine AW.seq ?_
              refine AW.region ?_
              refine AOps.q rfl rfl rfl (q_as rfl (rfl : _ = V.bool _)) ?_
              refine AOps.nil ?_
              refine AW.ret ?_
              exact retQ.mk' (.one _) (VLe.of_eq (congrArg V.bool (by rw [rangesF, objs_all.2 hn, all_up.2 hp, gameOk, all_up.2 hq]; rfl))) (HLe.refl _) ⟨rfl, rfl⟩

end Go.Proofs.YtnbmcbkokaoapaaGreatDoor
