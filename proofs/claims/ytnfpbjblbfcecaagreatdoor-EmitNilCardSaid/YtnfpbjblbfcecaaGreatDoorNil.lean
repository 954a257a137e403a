/- Walks: emitters that do nothing more. -/
import Derived.Test.YtnfpbjblbfcecaaGreatDoorPut
import Derived.Test.YtnfpbjblbfcecaaGreatDoorNum
namespace Go.Proofs.YtnfpbjblbfcecaaGreatDoor
open Go Go.AV
set_option maxRecDepth 100000
set_option maxHeartbeats 1000000
theorem wanted_tup {T : Tm} {ops : Array Oper} {o : Oper} {t : Nat} {want : Bool} (hg : guardTmp ops o = some (t, want)) (hT : T t = .tup []) : wantedA ops o T = some false := by
  rw [wantedA_tmp hg, hT]; rfl
/-- An emitter that does nothing more: nil, or one in error (nothing pending). -/
def Dead (p : V) (e : Int) (h : Hp) : Prop := e ≠ 0 ∧ ((p = .pnil ∧ e = 4) ∨ ∃ id m ve, p = .ptr id 0 ∧ h.box id = some (emCells m ve .snil) ∧ m.err = e)
theorem Dead.ne {p : V} {e : Int} {h : Hp} (d : Dead p e h) : e ≠ 0 := d.1
theorem Dead.le {p : V} {e : Int} {h h' : Hp} (d : Dead p e h) (l : HLe h' h) : Dead p e h' := by
  obtain ⟨a, b | ⟨id, m, ve, hp, hb, hm⟩⟩ := d
  · exact ⟨a, .inl b⟩
  · exact ⟨a, .inr ⟨id, m, ve, hp, l.box _ _ hb, hm⟩⟩

theorem errNil_calls (h : Hp) : ACalls Tryz.prog G 11 [.pnil] h fun r h' => r = eE 4 ∧ h' = h := by
  refine ACalls.enter Tryz.func11 rfl Tryz.ntmps11 Tryz.results11 rfl ?_
  refine AW.seq ?_
  refine AW.region ?_
  refine AOps.q rfl rfl rfl (q_as rfl (rfl : _ = V.inil)) ?_
  refine AOps.nil ?_
  refine AW.seq ?_
  refine AW.seq ?_
  refine AW.region ?_
  refine AOps.q rfl rfl rfl (q_mv rfl (rfl : _ = V.pnil)) ?_
  refine AOps.q rfl rfl rfl (q_eqnil Tryz.underlying34 rfl rfl rfl) ?_
  refine AOps.nil ?_
  refine AW.cond rfl (fun c0 => ?_) (fun c0 => ?_)
  · skip
    refine AW.seq ?_
    refine AW.region ?_
    refine AOps.q rfl rfl rfl (q_iface rfl Tryz.underlying52 rfl) ?_
    refine AOps.q rfl rfl rfl (q_as rfl (rfl : _ = V.iface _ _)) ?_
    refine AOps.nil ?_
    refine AW.ret ?_
    exact retQ.mk (.one _) ⟨by show V.iface _ (V.int _ _) = _; exact (eErr_ne (by decide)).symm, rfl⟩
  · cases c0

theorem derr_calls {p : V} {e : Int} {h : Hp} (hd : Dead p e h) : ACalls Tryz.prog G 11 [p] h fun r h' => r = eE e ∧ h' = h := by
  obtain ⟨a, ⟨rfl, rfl⟩ | ⟨id, m, ve, rfl, hb, rfl⟩⟩ := hd
  · exact errNil_calls h
  · exact err_calls hb

theorem dmust_calls (ok : Bool) (n : Int) {p : V} {e : Int} {h : Hp} (hd : Dead p e h) : ACalls Tryz.prog G 47 [p, .bool ok, .int .i64 n] h fun r h' => r = .bool false ∧ h' = h := by
  refine ACalls.enter Tryz.func47 rfl Tryz.ntmps47 Tryz.results47 rfl ?_
  refine AW.seq ?_
  refine AW.region ?_
  refine AOps.q rfl rfl rfl (q_as rfl (rfl : _ = V.bool _)) ?_
  refine AOps.nil ?_
  refine AW.seq ?_
  refine AW.seq ?_
  refine AW.region ?_
  refine AOps.q rfl rfl rfl (q_mv rfl (rfl : _ = p)) ?_
  refine AOps.q rfl rfl rfl (QOp.call rfl (by exact Tryz.call11) fun h' hl' => by exact derr_calls (hd.le hl')) ?_
  refine AOps.q rfl rfl rfl (q_neerr Tryz.underlying40 rfl rfl) ?_
  refine AOps.nil ?_
  refine AW.cond rfl (fun c0 => ?_) (fun c0 => ?_)
  · skip
    refine AW.seq ?_
    refine AW.region ?_
    refine AOps.q rfl rfl rfl (q_as rfl (rfl : _ = V.bool _)) ?_
    refine AOps.nil ?_
    refine AW.ret ?_
    exact retQ.mk (.one _) ⟨rfl, rfl⟩
  · simp [hd.ne] at c0

theorem dplayer_calls {n : Int} {p : V} {e : Int} {h : Hp} (hd : Dead p e h) : ACalls Tryz.prog G 64 [p, .int .i64 n] h fun r h' => r = .bool false ∧ h' = h := by
  refine ACalls.enter Tryz.func64 rfl Tryz.ntmps64 Tryz.results64 rfl ?_
  refine AW.seq ?_
  refine AW.region ?_
  refine AOps.q rfl rfl rfl (q_as rfl (rfl : _ = V.bool _)) ?_
  refine AOps.nil ?_
  refine AW.seq ?_
  refine AW.region ?_
  refine AOps.q rfl rfl rfl (q_mv rfl (rfl : _ = p)) ?_
  refine AOps.q rfl rfl rfl (q_mv rfl (rfl : _ = V.int _ _)) ?_
  refine AOps.q rfl rfl rfl (q_eq rfl rfl rfl) ?_
  refine AOps.q rfl rfl rfl (q_mv rfl (rfl : _ = V.bool _)) ?_
  refine AOps.g (wanted_f rfl rfl) rfl rfl (fun hc => TLe.refl _) (fun hc => q_mv rfl (rfl : _ = V.int _ _)) ?_
  refine AOps.g (wanted_f rfl rfl) rfl rfl (fun hc => TLe.put (d := 9) (VLe.opt hc) (TLe.refl _)) (fun hc => q_eq rfl rfl rfl) ?_
  refine AOps.q rfl rfl rfl (q_pickg rfl rfl (fun hp => by exact VLe.refl _) (fun hp => by first | exact VLe.opt hp | exact VLe.opt (by rw [hp]; rfl) | exact VLe.opt (by simp_all))) ?_
  refine AOps.q rfl rfl rfl (QOp.call rfl (by exact Tryz.call47) fun h' hl' => by exact dmust_calls _ _ (hd.le hl')) ?_
  refine AOps.q rfl rfl rfl (q_as rfl (rfl : _ = V.bool _)) ?_
  refine AOps.nil ?_
  refine AW.ret ?_
  exact retQ.mk (.one _) ⟨rfl, rfl⟩

theorem dset_calls (a : Int) (b : Int) (c : Int)  {p : V} {e : Int} {h : Hp} (hd : Dead p e h) : ACalls Tryz.prog G 30 [p, .int .i64 a, .int .i64 b, .int .i64 c] h fun r h' => r = .tup [] ∧ h' = h := by
  refine ACalls.enter Tryz.func30 rfl Tryz.ntmps30 Tryz.results30 rfl ?_
  refine AW.seq ?_
  refine AW.seq ?_
  refine AW.region ?_
  refine AOps.q rfl rfl rfl (q_mv rfl (rfl : _ = p)) ?_
  refine AOps.q rfl rfl rfl (QOp.call rfl (by exact Tryz.call11) fun h' hl' => by exact derr_calls (hd.le hl')) ?_
  refine AOps.q rfl rfl rfl (q_neerr Tryz.underlying40 rfl rfl) ?_
  refine AOps.nil ?_
  refine AW.cond rfl (fun c0 => ?_) (fun c0 => ?_)
  · skip
    refine AW.ret ?_
    exact retQ.mk .none ⟨rfl, rfl⟩
  · simp [hd.ne] at c0

theorem dpl_calls (a : Int) (b : Int) (c : Int)  {p : V} {e : Int} {h : Hp} (hd : Dead p e h) : ACalls Tryz.prog G 31 [p, .int .i64 a, .int .i64 b, .int .i64 c] h fun r h' => r = .tup [] ∧ h' = h := by
  refine ACalls.enter Tryz.func31 rfl Tryz.ntmps31 Tryz.results31 rfl ?_
  refine AW.seq ?_
  refine AW.seq ?_
  refine AW.region ?_
  refine AOps.q rfl rfl rfl (q_mv rfl (rfl : _ = p)) ?_
  refine AOps.q rfl rfl rfl (QOp.call rfl (by exact Tryz.call11) fun h' hl' => by exact derr_calls (hd.le hl')) ?_
  refine AOps.q rfl rfl rfl (q_neerr Tryz.underlying40 rfl rfl) ?_
  refine AOps.nil ?_
  refine AW.cond rfl (fun c0 => ?_) (fun c0 => ?_)
  · skip
    refine AW.ret ?_
    exact retQ.mk .none ⟨rfl, rfl⟩
  · simp [hd.ne] at c0

theorem dgame_calls (a : Int) (b : Int)  {p : V} {e : Int} {h : Hp} (hd : Dead p e h) : ACalls Tryz.prog G 32 [p, .int .i64 a, .int .i64 b] h fun r h' => r = .tup [] ∧ h' = h := by
  refine ACalls.enter Tryz.func32 rfl Tryz.ntmps32 Tryz.results32 rfl ?_
  refine AW.seq ?_
  refine AW.seq ?_
  refine AW.region ?_
  refine AOps.q rfl rfl rfl (q_mv rfl (rfl : _ = p)) ?_
  refine AOps.q rfl rfl rfl (QOp.call rfl (by exact Tryz.call11) fun h' hl' => by exact derr_calls (hd.le hl')) ?_
  refine AOps.q rfl rfl rfl (q_neerr Tryz.underlying40 rfl rfl) ?_
  refine AOps.nil ?_
  refine AW.cond rfl (fun c0 => ?_) (fun c0 => ?_)
  · skip
    refine AW.ret ?_
    exact retQ.mk .none ⟨rfl, rfl⟩
  · simp [hd.ne] at c0

theorem dshow_calls (a : Int) (b : Int)  {p : V} {e : Int} {h : Hp} (hd : Dead p e h) : ACalls Tryz.prog G 39 [p, .int .i64 a, .int .i64 b] h fun r h' => r = .tup [] ∧ h' = h := by
  refine ACalls.enter Tryz.func39 rfl Tryz.ntmps39 Tryz.results39 rfl ?_
  refine AW.seq ?_
  refine AW.region ?_
  refine AOps.q rfl rfl rfl (q_mv rfl (rfl : _ = p)) ?_
  refine AOps.q rfl rfl rfl (QOp.call rfl (by exact Tryz.call11) fun h' hl' => by exact derr_calls (hd.le hl')) ?_
  refine AOps.q rfl rfl rfl (q_eqerr Tryz.underlying40 rfl rfl) ?_
  refine AOps.nil ?_
  refine AW.cond rfl (fun c0 => ?_) (fun c0 => ?_)
  · simp [hd.ne] at c0
  · skip
    refine AW.skip ?_
    exact retQ.mk .none ⟨rfl, rfl⟩

theorem dmake_calls (a : Int) (b : Int) (c : Int)  {p : V} {e : Int} {h : Hp} (hd : Dead p e h) : ACalls Tryz.prog G 33 [p, .int .i64 a, .int .i64 b, .int .i64 c] h fun r h' => r = .int .i64 0 ∧ h' = h := by
  refine ACalls.enter Tryz.func33 rfl Tryz.ntmps33 Tryz.results33 rfl ?_
  refine AW.seq ?_
  refine AW.region ?_
  refine AOps.q rfl rfl rfl (q_as rfl (rfl : _ = V.int _ _)) ?_
  refine AOps.nil ?_
  refine AW.seq ?_
  refine AW.seq ?_
  refine AW.region ?_
  refine AOps.q rfl rfl rfl (q_mv rfl (rfl : _ = p)) ?_
  refine AOps.q rfl rfl rfl (QOp.call rfl (by exact Tryz.call11) fun h' hl' => by exact derr_calls (hd.le hl')) ?_
  refine AOps.q rfl rfl rfl (q_neerr Tryz.underlying40 rfl rfl) ?_
  refine AOps.nil ?_
  refine AW.cond rfl (fun c0 => ?_) (fun c0 => ?_)
  · skip
    refine AW.seq ?_
    refine AW.region ?_
    refine AOps.q rfl rfl rfl (q_as rfl (rfl : _ = V.int _ _)) ?_
    refine AOps.nil ?_
    refine AW.ret ?_
    exact retQ.mk (.one _) ⟨rfl, rfl⟩
  · simp [hd.ne] at c0

theorem dpick_calls (a : Int)  {p : V} {e : Int} {h : Hp} (hd : Dead p e h) : ACalls Tryz.prog G 37 [p, .int .i64 a] h fun r h' => r = .int .i64 0 ∧ h' = h := by
  refine ACalls.enter Tryz.func37 rfl Tryz.ntmps37 Tryz.results37 rfl ?_
  refine AW.seq ?_
  refine AW.region ?_
  refine AOps.q rfl rfl rfl (q_as rfl (rfl : _ = V.int _ _)) ?_
  refine AOps.nil ?_
  refine AW.seq ?_
  refine AW.seq ?_
  refine AW.region ?_
  refine AOps.q rfl rfl rfl (q_mv rfl (rfl : _ = p)) ?_
  refine AOps.q rfl rfl rfl (QOp.call rfl (by exact Tryz.call11) fun h' hl' => by exact derr_calls (hd.le hl')) ?_
  refine AOps.q rfl rfl rfl (q_neerr Tryz.underlying40 rfl rfl) ?_
  refine AOps.nil ?_
  refine AW.cond rfl (fun c0 => ?_) (fun c0 => ?_)
  · skip
    refine AW.seq ?_
    refine AW.region ?_
    refine AOps.q rfl rfl rfl (q_as rfl (rfl : _ = V.int _ _)) ?_
    refine AOps.nil ?_
    refine AW.ret ?_
    exact retQ.mk (.one _) ⟨rfl, rfl⟩
  · simp [hd.ne] at c0

theorem dput_calls (a : Int) (b : Int)  {p : V} {e : Int} {h : Hp} (hd : Dead p e h) : ACalls Tryz.prog G 21 [p, .int .i64 a, .int .i64 b] h fun r h' => r = .tup [] ∧ h' = h := by
  have hA : (!(e != 0)) = false := by simp [hd.ne]
  have hB : (!(bif e != 0 then true else true)) = false := by simp
  refine ACalls.enter Tryz.func21 rfl Tryz.ntmps21 Tryz.results21 rfl ?_
  refine AW.seq ?_
  refine AW.seq ?_
  refine AW.region ?_
  refine AOps.q rfl rfl rfl (q_mv rfl (rfl : _ = p)) ?_
  refine AOps.q rfl rfl rfl (QOp.call rfl (by exact Tryz.call11) fun h' hl' => by exact derr_calls (hd.le hl')) ?_
  refine AOps.q rfl rfl rfl (q_neerr Tryz.underlying40 rfl rfl) ?_
  refine AOps.q rfl rfl rfl (q_mv rfl (rfl : _ = V.bool _)) ?_
  refine AOps.gn (wanted_no (wanted_f rfl rfl) hA) rfl rfl ?_
  refine AOps.gn (wanted_no (wanted_f rfl rfl) hA) rfl rfl ?_
  refine AOps.gn (wanted_no (wanted_f rfl rfl) hA) rfl rfl ?_
  refine AOps.gn (wanted_no (wanted_f rfl rfl) hA) rfl rfl ?_
  refine AOps.gn (wanted_tup rfl rfl) rfl rfl ?_
  refine AOps.gn (wanted_tup rfl rfl) rfl rfl ?_
  refine AOps.gn (wanted_tup rfl rfl) rfl rfl ?_
  refine AOps.gn (wanted_tup rfl rfl) rfl rfl ?_
  refine AOps.gn (wanted_tup rfl rfl) rfl rfl ?_
  refine AOps.gn (wanted_tup rfl rfl) rfl rfl ?_
  refine AOps.gn (wanted_tup rfl rfl) rfl rfl ?_
  refine AOps.gn (wanted_tup rfl rfl) rfl rfl ?_
  refine AOps.gn (wanted_no (wanted_f rfl rfl) hA) rfl rfl ?_
  refine AOps.gn (wanted_no (wanted_f rfl rfl) hA) rfl rfl ?_
  refine AOps.gn (wanted_no (wanted_f rfl rfl) hA) rfl rfl ?_
  refine AOps.q rfl rfl rfl (q_pickg (u := true) (v := true) rfl rfl (fun hp => VLe.refl _) (fun hp => absurd hp (by simp [hd.ne]))) ?_
  refine AOps.q rfl rfl rfl (q_mv rfl (rfl : _ = V.bool _)) ?_
  refine AOps.gn (wanted_no (wanted_f rfl rfl) hB) rfl rfl ?_
  refine AOps.gn (wanted_no (wanted_f rfl rfl) hB) rfl rfl ?_
  refine AOps.gn (wanted_no (wanted_f rfl rfl) hB) rfl rfl ?_
  refine AOps.gn (wanted_no (wanted_f rfl rfl) hB) rfl rfl ?_
  refine AOps.gn (wanted_no (wanted_f rfl rfl) hB) rfl rfl ?_
  refine AOps.q rfl rfl rfl (q_pickg (u := true) (v := true) rfl rfl (fun hp => VLe.refl _) (fun hp => absurd hp (by simp))) ?_
  refine AOps.nil ?_
  refine AW.cond rfl (fun c0 => ?_) (fun c0 => ?_)
  · skip
    refine AW.ret ?_
    exact retQ.mk .none ⟨rfl, rfl⟩
  · simp at c0

theorem dlife_calls (a : Int) (b : Int)  {p : V} {e : Int} {h : Hp} (hd : Dead p e h) : ACalls Tryz.prog G 34 [p, .int .i64 a, .int .i64 b] h fun r h' => r = .tup [] ∧ h' = h := by
  refine ACalls.enter Tryz.func34 rfl Tryz.ntmps34 Tryz.results34 rfl ?_
  refine AW.seq ?_
  refine AW.region ?_
  refine AOps.q rfl rfl rfl (q_mv rfl (rfl : _ = p)) ?_
  refine AOps.q rfl rfl rfl (q_mv rfl (rfl : _ = V.int _ _)) ?_
  refine AOps.q rfl rfl rfl (QOp.call rfl (by exact Tryz.call64) fun h' hl' => by exact dplayer_calls (hd.le hl')) ?_
  refine AOps.nil ?_
  refine AW.cond rfl (fun c0 => ?_) (fun c0 => ?_)
  · cases c0
  · skip
    refine AW.skip ?_
    exact retQ.mk .none ⟨rfl, rfl⟩

theorem dmana_calls (a : Int) (b : Int) (c : Int)  {p : V} {e : Int} {h : Hp} (hd : Dead p e h) : ACalls Tryz.prog G 35 [p, .int .i64 a, .int .i64 b, .int .i64 c] h fun r h' => r = .tup [] ∧ h' = h := by
  refine ACalls.enter Tryz.func35 rfl Tryz.ntmps35 Tryz.results35 rfl ?_
  refine AW.seq ?_
  refine AW.region ?_
  refine AOps.q rfl rfl rfl (q_mv rfl (rfl : _ = p)) ?_
  refine AOps.q rfl rfl rfl (q_mv rfl (rfl : _ = V.int _ _)) ?_
  refine AOps.q rfl rfl rfl (QOp.call rfl (by exact Tryz.call64) fun h' hl' => by exact dplayer_calls (hd.le hl')) ?_
  refine AOps.q rfl rfl rfl (q_mv rfl (rfl : _ = V.bool _)) ?_
  refine AOps.gn (wanted_no (wanted_t rfl rfl) rfl) rfl rfl ?_
  refine AOps.gn (wanted_no (wanted_t rfl rfl) rfl) rfl rfl ?_
  refine AOps.gn (wanted_no (wanted_t rfl rfl) rfl) rfl rfl ?_
  refine AOps.gn (wanted_no (wanted_t rfl rfl) rfl) rfl rfl ?_
  refine AOps.gn (wanted_tup rfl rfl) rfl rfl ?_
  refine AOps.gn (wanted_tup rfl rfl) rfl rfl ?_
  refine AOps.gn (wanted_no (wanted_t rfl rfl) rfl) rfl rfl ?_
  refine AOps.gn (wanted_no (wanted_t rfl rfl) rfl) rfl rfl ?_
  refine AOps.q rfl rfl rfl (q_pickg (u := false) (v := false) rfl rfl (fun hp => by cases hp) (fun hp => VLe.refl _)) ?_
  refine AOps.nil ?_
  refine AW.cond rfl (fun c0 => ?_) (fun c0 => ?_)
  · cases c0
  · skip
    refine AW.skip ?_
    exact retQ.mk .none ⟨rfl, rfl⟩

theorem ddraw_calls (a : Int)  {p : V} {e : Int} {h : Hp} (hd : Dead p e h) : ACalls Tryz.prog G 36 [p, .int .i64 a] h fun r h' => r = .tup [] ∧ h' = h := by
  refine ACalls.enter Tryz.func36 rfl Tryz.ntmps36 Tryz.results36 rfl ?_
  refine AW.seq ?_
  refine AW.seq ?_
  refine AW.region ?_
  refine AOps.q rfl rfl rfl (q_mv rfl (rfl : _ = p)) ?_
  refine AOps.q rfl rfl rfl (q_mv rfl (rfl : _ = V.int _ _)) ?_
  refine AOps.q rfl rfl rfl (QOp.call rfl (by exact Tryz.call64) fun h' hl' => by exact dplayer_calls (hd.le hl')) ?_
  refine AOps.q rfl rfl rfl (q_not rfl rfl) ?_
  refine AOps.nil ?_
  refine AW.cond rfl (fun c0 => ?_) (fun c0 => ?_)
  · skip
    refine AW.ret ?_
    exact retQ.mk .none ⟨rfl, rfl⟩
  · cases c0

theorem dshuffle_calls (a : Int)  {p : V} {e : Int} {h : Hp} (hd : Dead p e h) : ACalls Tryz.prog G 38 [p, .int .i64 a] h fun r h' => r = .tup [] ∧ h' = h := by
  refine ACalls.enter Tryz.func38 rfl Tryz.ntmps38 Tryz.results38 rfl ?_
  refine AW.seq ?_
  refine AW.seq ?_
  refine AW.region ?_
  refine AOps.q rfl rfl rfl (q_mv rfl (rfl : _ = p)) ?_
  refine AOps.q rfl rfl rfl (q_mv rfl (rfl : _ = V.int _ _)) ?_
  refine AOps.q rfl rfl rfl (QOp.call rfl (by exact Tryz.call64) fun h' hl' => by exact dplayer_calls (hd.le hl')) ?_
  refine AOps.q rfl rfl rfl (q_not rfl rfl) ?_
  refine AOps.nil ?_
  refine AW.cond rfl (fun c0 => ?_) (fun c0 => ?_)
  · skip
    refine AW.ret ?_
    exact retQ.mk .none ⟨rfl, rfl⟩
  · cases c0

theorem dpending_calls  {p : V} {e : Int} {h : Hp} (hd : Dead p e h) : ACalls Tryz.prog G 20 [p] h fun r h' => r = ePds [] ∧ h' = h := by
  refine ACalls.enter Tryz.func20 rfl Tryz.ntmps20 Tryz.results20 rfl ?_
  refine AW.seq ?_
  refine AW.region ?_
  refine AOps.q rfl rfl rfl (q_as rfl (rfl : _ = V.snil)) ?_
  refine AOps.nil ?_
  refine AW.seq ?_
  refine AW.seq ?_
  refine AW.region ?_
  refine AOps.q rfl rfl rfl (q_mv rfl (rfl : _ = p)) ?_
  refine AOps.q rfl rfl rfl (QOp.call rfl (by exact Tryz.call11) fun h' hl' => by exact derr_calls (hd.le hl')) ?_
  refine AOps.q rfl rfl rfl (q_neerr Tryz.underlying40 rfl rfl) ?_
  refine AOps.nil ?_
  refine AW.cond rfl (fun c0 => ?_) (fun c0 => ?_)
  · skip
    refine AW.seq ?_
    refine AW.region ?_
    refine AOps.q rfl rfl rfl (q_as rfl (rfl : _ = V.snil)) ?_
    refine AOps.nil ?_
    refine AW.ret ?_
    exact retQ.mk' (.one _) VLe.nilimm (HLe.refl _) ⟨rfl, rfl⟩
  · simp [hd.ne] at c0

theorem devents_calls  {p : V} {e : Int} {h : Hp} (hd : Dead p e h) : ACalls Tryz.prog G 13 [p] h fun r h' => r = eEvs [] ∧ h' = h := by
  refine ACalls.enter Tryz.func13 rfl Tryz.ntmps13 Tryz.results13 rfl ?_
  refine AW.seq ?_
  refine AW.region ?_
  refine AOps.q rfl rfl rfl (q_as rfl (rfl : _ = V.snil)) ?_
  refine AOps.nil ?_
  refine AW.seq ?_
  refine AW.seq ?_
  refine AW.region ?_
  refine AOps.q rfl rfl rfl (q_mv rfl (rfl : _ = p)) ?_
  refine AOps.q rfl rfl rfl (QOp.call rfl (by exact Tryz.call11) fun h' hl' => by exact derr_calls (hd.le hl')) ?_
  refine AOps.q rfl rfl rfl (q_neerr Tryz.underlying40 rfl rfl) ?_
  refine AOps.nil ?_
  refine AW.cond rfl (fun c0 => ?_) (fun c0 => ?_)
  · skip
    refine AW.seq ?_
    refine AW.region ?_
    refine AOps.q rfl rfl rfl (q_as rfl (rfl : _ = V.snil)) ?_
    refine AOps.nil ?_
    refine AW.ret ?_
    exact retQ.mk' (.one _) VLe.nilimm (HLe.refl _) ⟨rfl, rfl⟩
  · simp [hd.ne] at c0

end Go.Proofs.YtnfpbjblbfcecaaGreatDoor
