/- Walks after the mirrors. Printed by mir.py. -/
import Derived.Test.YtioalgofaiideaaWk6
namespace Go.Proofs.Ytioalgofaiideaa
open Go.RowKit
set_option linter.unusedVariables false
/- qcref1.Find -/
set_option maxRecDepth 100000 in
set_option maxHeartbeats 1000000 in
theorem qcref1_Find_ok (N : Nat) (a0 : Wd) (a1 : Int) (a2 : ByteArray) (r : (Int × Int)) (h : qcref1_Find N a0 a1 a2 = some r) : Spec Try.prog 46 [] [.agg (eWd a0), .int a1, .str a2] (.tup [.int r.1, .int r.2]) [] [] := by
  refine Spec.of tabOk Try.func46 rfl Try.ntmps46 (by kernel_rfl) rfl rfl rfl fun Γ hn => ?_
  unfold qcref1_Find at h
  refine COk.seqQ fun Q301 qn301 qx301 qr301 => ?_
  refine gor hn ?_
  refine qn301 _ _ ?_
  refine COk.seqQ fun Q302 qn302 qx302 qr302 => ?_
  refine COk.seqQ fun Q303 qn303 qx303 qr303 => ?_
  refine gor hn ?_
  obtain ⟨r1, hr2, h⟩ := bindM h
  show CallOk Try.prog _ _ _ _
  refine CallOk.as ((qcref1_Ups_ok N a0 a1 r1 hr2).sw 0 14) (by repeat (first | exact trivial | exact rfl | (refine And.intro ?_ ?_))) trivial rfl ?_
  refine lenM (fun hl3 => ?_)
  refine qn303 _ _ ?_
  obtain ⟨o5, h6, h⟩ := bindM h
  refine COk.joinR (ι := { s : Unit // o5 = Ctl.next s }) (fun s => []) (fun s => []) (fun Q498 qn498 qx498 qr498 => ?_) (by intro s; rw [hn]; rfl) ?_
  · refine COk.blkQ fun Q499 qn499 qe499 qx499 qr499 => ?_
    refine COk.loopQ (ι := { q : ((List Int) × Nat) // q.1 = r1.drop q.2 ∧ qcref1_Find_l1 N a0 a2 r1 q.1 q.2 = some o5 }) (fun q => [(2, .str a2), (3, .ptr 3 0), (14, .own 14), (15, .int (r1.length : Int)), (16, .int (q.1.2 : Int))]) (fun q => [(3, .box (eWd a0) 55), (14, .row 1 (List.map eInt r1) 3)]) (fun q => q.1.1.length) ⟨(r1, 0), rfl, h6⟩ [] ⟨⟨rfl, rfl, rfl, rfl, rfl, trivial⟩, ⟨rfl, rfl, trivial⟩, rfl, rfl⟩ (by intro q; rw [hn]; rfl) ?_
    rintro ⟨⟨rest_, k4⟩, hd8, h6⟩ Q500 qn500 qx500 qr500
    replace hd8 : rest_ = r1.drop k4 := hd8
    rcases rest_ with _ | ⟨x10, rest7⟩
    · have hlt12 := restNil hd8
      replace h6 := (qcref1_Find_l1.eq_1 _ _ _ _ _).symm.trans h6
      refine COk.seqQ fun Q501 qn501 qx501 qr501 => ?_
      refine gor hn ?_
      refine qn501 _ _ ?_
      refine COk.seqQ fun Q502 qn502 qx502 qr502 => ?_
      refine goc hn ?_
      refine bselF hlt12 ?_
      refine goe hn ?_
      refine qx502 _ _ _ ?_
      refine qx500 _ _ _ ?_
      refine qe499 _ _ ?_
      refine qn498 _ _ ?_
      obtain rfl := Option.some.inj h6
      refine EOk.done ?_
      exact ⟨⟨_, rfl⟩, [], trivial, ⟨trivial, trivial, rfl, rfl⟩⟩
    · obtain ⟨hx11, hd2, hlt12⟩ := restCons hd8
      replace h6 := (qcref1_Find_l1.eq_2 _ _ _ _ _ _ _).symm.trans h6
      refine COk.seqQ fun Q503 qn503 qx503 qr503 => ?_
      refine gor hn ?_
      refine qn503 _ _ ?_
      refine COk.seqQ fun Q504 qn504 qx504 qr504 => ?_
      refine goc hn ?_
      refine bselT hlt12 ?_
      refine gok hn ?_
      refine qn504 _ _ ?_
      refine COk.seqQ fun Q505 qn505 qx505 qr505 => ?_
      refine COk.blkQ fun Q553 qn553 qe553 qx553 qr553 => ?_
      refine COk.seqQ fun Q554 qn554 qx554 qr554 => ?_
      refine gor hn ?_
      obtain ⟨x13, hx14, h6⟩ := bindM h6
      refine ownM hx14 ?_
      refine ldM (nthO_some hx14).2 ?_
      refine qn554 _ _ ?_
      refine COk.seqQ fun Q555 qn555 qx555 qr555 => ?_
      refine gor hn ?_
      obtain ⟨x15, hx16, h6⟩ := bindM h6
      refine idxM hx16 ?_
      refine lenM (fun hl17 => ?_)
      refine qn555 _ _ ?_
      obtain ⟨o19, h20, h6⟩ := bindM h6
      refine COk.joinR (ι := { s : Unit // o19 = Ctl.next s }) (fun s => [(2, .str a2), (3, .ptr 3 0), (14, .own 14), (15, .int (r1.length : Int)), (16, .int (k4 : Int))]) (fun s => [(3, .box (eWd a0) 55), (14, .row 1 (List.map eInt r1) 3)]) (fun Q582 qn582 qx582 qr582 => ?_) (by intro s; rw [hn]; rfl) ?_
      · refine COk.blkQ fun Q583 qn583 qe583 qx583 qr583 => ?_
        refine COk.loopQ (ι := { q : ((List Me) × Nat) // q.1 = x15.methods.drop q.2 ∧ qcref1_Find_l2 N a2 x13 q.1 q.2 = some o19 }) (fun q => [(2, .str a2), (3, .ptr 3 0), (9, .int x13), (14, .own 14), (15, .int (r1.length : Int)), (16, .int (k4 : Int)), (25, .sl 5 (List.map eMe x15.methods)), (26, .int (x15.methods.length : Int)), (27, .int (q.1.2 : Int))]) (fun q => [(3, .box (eWd a0) 55), (14, .row 1 (List.map eInt r1) 3)]) (fun q => q.1.1.length) ⟨(x15.methods, 0), rfl, h20⟩ [] ⟨⟨rfl, rfl, rfl, rfl, rfl, rfl, (by repeat (first | exact trivial | exact rfl | (refine And.intro ?_ ?_))), rfl, rfl, trivial⟩, ⟨rfl, rfl, trivial⟩, rfl, rfl⟩ (by intro q; rw [hn]; rfl) ?_
        rintro ⟨⟨rest_, k18⟩, hd22, h20⟩ Q584 qn584 qx584 qr584
        replace hd22 : rest_ = x15.methods.drop k18 := hd22
        rcases rest_ with _ | ⟨x24, rest21⟩
        · have hlt26 := restNil hd22
          replace h20 := (qcref1_Find_l2.eq_1 _ _ _ _).symm.trans h20
          refine COk.seqQ fun Q585 qn585 qx585 qr585 => ?_
          refine gor hn ?_
          refine qn585 _ _ ?_
          refine COk.seqQ fun Q586 qn586 qx586 qr586 => ?_
          refine goc hn ?_
          refine bselF hlt26 ?_
          refine goe hn ?_
          refine qx586 _ _ _ ?_
          refine qx584 _ _ _ ?_
          refine qe583 _ _ ?_
          refine qn582 _ _ ?_
          obtain rfl := Option.some.inj h20
          refine EOk.done ?_
          exact ⟨⟨_, rfl⟩, [], trivial, ⟨⟨rfl, rfl, rfl, rfl, rfl, trivial⟩, ⟨rfl, rfl, trivial⟩, rfl, rfl⟩⟩
        · obtain ⟨hx25, hd2, hlt26⟩ := restCons hd22
          replace h20 := (qcref1_Find_l2.eq_2 _ _ _ _ _ _).symm.trans h20
          refine COk.seqQ fun Q587 qn587 qx587 qr587 => ?_
          refine gor hn ?_
          refine qn587 _ _ ?_
          refine COk.seqQ fun Q588 qn588 qx588 qr588 => ?_
          refine goc hn ?_
          refine bselT hlt26 ?_
          refine gok hn ?_
          refine qn588 _ _ ?_
          refine COk.seqQ fun Q589 qn589 qx589 qr589 => ?_
          refine COk.blkQ fun Q595 qn595 qe595 qx595 qr595 => ?_
          refine COk.seqQ fun Q596 qn596 qx596 qr596 => ?_
          refine gor hn ?_
          refine idxK hx25 ?_
          refine qn596 _ _ ?_
          refine COk.seqQ fun Q597 qn597 qx597 qr597 => ?_
          refine gor hn ?_
          refine qn597 _ _ ?_
          refine goc hn ?_
          refine bselM h20 (fun hb27 h20 => ?_) (fun hb27 h20 => ?_)
          · refine COk.seqQ fun Q599 qn599 qx599 qr599 => ?_
            refine COk.sub (ts2 := [(9, .int x13), (10, .int (k18 : Int))]) (os2 := []) [] ⟨⟨rfl, rfl, trivial⟩, trivial, rfl, rfl⟩ (by rw [hn]; rfl) ?_
            refine gor hn ?_
            refine qn599 _ _ ?_
            refine got hn ?_
            refine qr595 _ _ ?_
            refine qr589 _ _ ?_
            refine qr584 _ _ ?_
            refine qr583 _ _ ?_
            refine qr582 _ _ ?_
            refine qr553 _ _ ?_
            refine qr505 _ _ ?_
            refine qr500 _ _ ?_
            refine qr499 _ _ ?_
            refine qr498 _ _ ?_
            refine qr302 _ _ ?_
            obtain rfl := Option.some.inj h20
            obtain rfl := Option.some.inj h6
            obtain rfl := Option.some.inj h
            exact ⟨[], _, rfl, (by repeat (first | exact trivial | exact rfl | (refine And.intro ?_ ?_))), trivial, rfl, rfl, rfl, rfl, rfl⟩
          · refine gok hn ?_
            refine qn595 _ _ ?_
            refine qn589 _ _ ?_
            refine COk.sub (ts2 := [(2, .str a2), (3, .ptr 3 0), (9, .int x13), (14, .own 14), (15, .int (r1.length : Int)), (16, .int (k4 : Int)), (25, .sl 5 (List.map eMe x15.methods)), (26, .int (x15.methods.length : Int)), (27, .int (k18 : Int))]) (os2 := [(3, .box (eWd a0) 55), (14, .row 1 (List.map eInt r1) 3)]) [] ⟨⟨rfl, rfl, rfl, rfl, rfl, rfl, (by repeat (first | exact trivial | exact rfl | (refine And.intro ?_ ?_))), rfl, rfl, trivial⟩, ⟨rfl, rfl, trivial⟩, rfl, rfl⟩ (by rw [hn]; rfl) ?_
            refine gor hn ?_
            refine Or.inl (And.intro (inrK hx25 hl17) ?_)
            refine qn584 _ _ ?_
            refine EOk.done ?_
            exact ⟨⟨(rest21, k18 + 1), hd2, h20⟩, [], by show rest21.length < rest21.length + 1; omega, ⟨⟨rfl, rfl, rfl, rfl, rfl, rfl, (by repeat (first | exact trivial | exact rfl | (refine And.intro ?_ ?_))), rfl, rfl, trivial⟩, ⟨rfl, rfl, trivial⟩, rfl, rfl⟩⟩
      rintro ⟨⟨⟩, rfl⟩
      refine qn553 _ _ ?_
      refine qn505 _ _ ?_
      refine gor hn ?_
      refine Or.inl (And.intro (inrK hx11 hl3) ?_)
      refine qn500 _ _ ?_
      refine EOk.done ?_
      exact ⟨⟨(rest7, k4 + 1), hd2, h6⟩, [], by show rest7.length < rest7.length + 1; omega, ⟨⟨rfl, rfl, rfl, rfl, rfl, trivial⟩, ⟨rfl, rfl, trivial⟩, rfl, rfl⟩⟩
  rintro ⟨⟨⟩, rfl⟩
  refine qn302 _ _ ?_
  refine COk.seqQ fun Q600 qn600 qx600 qr600 => ?_
  refine gor hn ?_
  refine qn600 _ _ ?_
  refine got hn ?_
  obtain rfl := Option.some.inj h
  exact ⟨[], _, rfl, (by repeat (first | exact trivial | exact rfl | (refine And.intro ?_ ?_))), trivial, rfl, rfl, rfl, rfl, rfl⟩

/- qcref5.Site -/
set_option maxRecDepth 100000 in
set_option maxHeartbeats 1000000 in
theorem qcref5_Site_ok (N : Nat) (a0 : Wd) (a1 : (List Tl)) (a2 : St) (a3 : ByteArray) (a4 : Int) (r : Int) (h : qcref5_Site N a0 a1 a2 a3 a4 = some r) : Spec Try.prog 44 [] [.agg (eWd a0), .sl 4 (List.map eTl a1), .agg (eSt a2), .str a3, .int a4] (.int r) [] [] := by
  refine Spec.of tabOk Try.func44 rfl Try.ntmps44 (by kernel_rfl) rfl rfl rfl fun Γ hn => ?_
  unfold qcref5_Site at h
  refine COk.seqQ fun Q20 qn20 qx20 qr20 => ?_
  refine gor hn ?_
  refine qn20 _ _ ?_
  refine COk.seqQ fun Q21 qn21 qx21 qr21 => ?_
  refine gor hn ?_
  obtain ⟨r1, hr2, h⟩ := bindM h
  show CallOk Try.prog _ _ _ _
  refine CallOk.as (qcref1_Most_ok N a1 a2 r1 hr2) (by repeat (first | exact trivial | exact rfl | (refine And.intro ?_ ?_))) trivial rfl ?_
  refine qn21 _ _ ?_
  refine COk.seqQ fun Q22 qn22 qx22 qr22 => ?_
  refine COk.seqQ fun Q23 qn23 qx23 qr23 => ?_
  obtain ⟨o5, h4, h⟩ := bindM h
  refine COk.joinR (ι := { s : Bool // o5 = s }) (fun s => [(3, .str a3), (4, .int a4), (5, .ptr 5 0), (11, .int r1.1), (36, .bool s.1)]) (fun s => [(5, .box (eWd a0) 55)]) (fun Q24 qn24 qx24 qr24 => ?_) (by intro s; rw [hn]; rfl) ?_
  · refine COk.sub (ts2 := [(3, .str a3), (4, .int a4), (5, .ptr 5 0), (11, .int r1.1), (12, .int r1.2.1), (13, .int r1.2.2)]) (os2 := [(5, .box (eWd a0) 55)]) [] ⟨⟨rfl, rfl, rfl, rfl, rfl, rfl, trivial⟩, ⟨rfl, trivial⟩, rfl, rfl⟩ (by rw [hn]; rfl) ?_
    refine gor hn ?_
    refine bselM h4 (fun hb6 h4 => ?_) (fun hb6 h4 => ?_)
    · refine bselT hb6 ?_
      refine bselT hb6 ?_
      refine bselT hb6 ?_
      refine bselT hb6 ?_
      refine bselT hb6 ?_
      refine qn24 _ _ ?_
      obtain rfl := Option.some.inj h4
      refine EOk.done ?_
      exact ⟨⟨_, rfl⟩, [], trivial, ⟨⟨rfl, rfl, rfl, rfl, rfl, trivial⟩, ⟨rfl, trivial⟩, rfl, rfl⟩⟩
    · refine bselF hb6 ?_
      refine bselF hb6 ?_
      refine Or.inr ?_
      refine bselF hb6 ?_
      refine bselF hb6 ?_
      refine bselF hb6 ?_
      refine bselM h4 (fun hb7 h4 => ?_) (fun hb7 h4 => ?_)
      · refine bselT hb7 ?_
        refine bselT hb7 ?_
        refine qn24 _ _ ?_
        obtain rfl := Option.some.inj h4
        refine EOk.done ?_
        exact ⟨⟨_, rfl⟩, [], trivial, ⟨⟨rfl, rfl, rfl, rfl, rfl, trivial⟩, ⟨rfl, trivial⟩, rfl, rfl⟩⟩
      · refine bselF hb7 ?_
        refine bselF hb7 ?_
        refine qn24 _ _ ?_
        obtain rfl := Option.some.inj h4
        refine EOk.done ?_
        exact ⟨⟨_, rfl⟩, [], trivial, ⟨⟨rfl, rfl, rfl, rfl, rfl, trivial⟩, ⟨rfl, trivial⟩, rfl, rfl⟩⟩
  rintro ⟨v3, hv_⟩
  replace hv_ := hv_.symm
  subst hv_
  refine qn23 _ _ ?_
  refine goc hn ?_
  refine bselM h (fun hb8 h => ?_) (fun hb8 h => ?_)
  · refine COk.seqQ fun Q26 qn26 qx26 qr26 => ?_
    refine gor hn ?_
    refine qn26 _ _ ?_
    refine got hn ?_
    refine qr22 _ _ ?_
    obtain rfl := Option.some.inj h
    exact ⟨[], _, rfl, (by repeat (first | exact trivial | exact rfl | (refine And.intro ?_ ?_))), trivial, rfl, rfl, rfl, rfl, rfl⟩
  · refine gok hn ?_
    refine qn22 _ _ ?_
    refine COk.seqQ fun Q27 qn27 qx27 qr27 => ?_
    refine gor hn ?_
    obtain ⟨r9, hr10, h⟩ := bindM h
    show CallOk Try.prog _ _ _ _
    refine CallOk.as (qcref1_Find_ok N a0 r1.1 a3 r9 hr10) (by repeat (first | exact trivial | exact rfl | (refine And.intro ?_ ?_))) trivial rfl ?_
    refine qn27 _ _ ?_
    refine COk.seqQ fun Q28 qn28 qx28 qr28 => ?_
    refine COk.seqQ fun Q29 qn29 qx29 qr29 => ?_
    refine gor hn ?_
    refine qn29 _ _ ?_
    refine goc hn ?_
    refine bselM h (fun hb11 h => ?_) (fun hb11 h => ?_)
    · refine COk.seqQ fun Q31 qn31 qx31 qr31 => ?_
      refine gor hn ?_
      refine qn31 _ _ ?_
      refine got hn ?_
      refine qr28 _ _ ?_
      obtain rfl := Option.some.inj h
      exact ⟨[], _, rfl, (by repeat (first | exact trivial | exact rfl | (refine And.intro ?_ ?_))), trivial, rfl, rfl, rfl, rfl, rfl⟩
    · refine gok hn ?_
      refine qn28 _ _ ?_
      refine COk.seqQ fun Q32 qn32 qx32 qr32 => ?_
      refine COk.seqQ fun Q33 qn33 qx33 qr33 => ?_
      refine gor hn ?_
      obtain ⟨x12, hx13, h⟩ := bindM h
      refine idxM hx13 ?_
      obtain ⟨x14, hx15, h⟩ := bindM h
      refine idxM hx15 ?_
      refine qn33 _ _ ?_
      refine COk.seqQ fun Q34 qn34 qx34 qr34 => ?_
      obtain ⟨o18, h17, h⟩ := bindM h
      refine COk.joinR (ι := { s : Bool // o18 = s }) (fun s => [(11, .int r1.1), (63, .bool s.1)]) (fun s => []) (fun Q35 qn35 qx35 qr35 => ?_) (by intro s; rw [hn]; rfl) ?_
      · refine COk.sub (ts2 := [(4, .int a4), (11, .int r1.1), (16, .ptr 16 0)]) (os2 := [(16, .box (eMe x14) 74)]) [] ⟨⟨rfl, rfl, rfl, trivial⟩, ⟨rfl, trivial⟩, rfl, rfl⟩ (by rw [hn]; rfl) ?_
        refine gor hn ?_
        obtain ⟨r19, hr20, h17⟩ := bindM h17
        show CallOk Try.prog _ _ _ _
        refine CallOk.as (qcref5_Leaf_ok N x14 r19 hr20) (by repeat (first | exact trivial | exact rfl | (refine And.intro ?_ ?_))) trivial rfl ?_
        refine bselM h17 (fun hb21 h17 => ?_) (fun hb21 h17 => ?_)
        · refine bselT hb21 ?_
          refine bselT hb21 ?_
          refine bselT hb21 ?_
          refine bselT hb21 ?_
          refine qn35 _ _ ?_
          obtain rfl := Option.some.inj h17
          refine EOk.done ?_
          exact ⟨⟨_, rfl⟩, [], trivial, ⟨⟨rfl, rfl, trivial⟩, trivial, rfl, rfl⟩⟩
        · refine bselF hb21 ?_
          refine bselF hb21 ?_
          refine bselF hb21 ?_
          refine bselF hb21 ?_
          refine qn35 _ _ ?_
          obtain rfl := Option.some.inj h17
          refine EOk.done ?_
          exact ⟨⟨_, rfl⟩, [], trivial, ⟨⟨rfl, rfl, trivial⟩, trivial, rfl, rfl⟩⟩
      rintro ⟨v16, hv_⟩
      replace hv_ := hv_.symm
      subst hv_
      refine qn34 _ _ ?_
      refine goc hn ?_
      refine bselM h (fun hb22 h => ?_) (fun hb22 h => ?_)
      · refine COk.seqQ fun Q37 qn37 qx37 qr37 => ?_
        refine gor hn ?_
        refine qn37 _ _ ?_
        refine got hn ?_
        refine qr32 _ _ ?_
        obtain rfl := Option.some.inj h
        exact ⟨[], _, rfl, (by repeat (first | exact trivial | exact rfl | (refine And.intro ?_ ?_))), trivial, rfl, rfl, rfl, rfl, rfl⟩
      · refine gok hn ?_
        refine qn32 _ _ ?_
        refine COk.seqQ fun Q38 qn38 qx38 qr38 => ?_
        refine gor hn ?_
        refine qn38 _ _ ?_
        refine got hn ?_
        obtain rfl := Option.some.inj h
        exact ⟨[], _, rfl, (by repeat (first | exact trivial | exact rfl | (refine And.intro ?_ ?_))), trivial, rfl, rfl, rfl, rfl, rfl⟩

/- qcref5.Sites -/
set_option maxRecDepth 100000 in
set_option maxHeartbeats 1000000 in
theorem qcref5_Sites_ok (N : Nat) (a0 : Wd) (a1 : (List Tl)) (a2 : Int) (a3 : Int) (r : (List Int)) (h : qcref5_Sites N a0 a1 a2 a3 = some r) : Spec Try.prog 42 [] [.agg (eWd a0), .sl 4 (List.map eTl a1), .int a2, .int a3] (.own 0) [(0, .row 1 (List.map eInt r) 3)] [0] := by
  refine Spec.of tabOk Try.func42 rfl Try.ntmps42 (by kernel_rfl) rfl rfl rfl fun Γ hn => ?_
  unfold qcref5_Sites at h
  refine COk.seqQ fun Q92 qn92 qx92 qr92 => ?_
  refine gor hn ?_
  refine qn92 _ _ ?_
  refine COk.seqQ fun Q93 qn93 qx93 qr93 => ?_
  refine gor hn ?_
  refine qn93 _ _ ?_
  refine COk.seqQ fun Q94 qn94 qx94 qr94 => ?_
  refine COk.seqQ fun Q95 qn95 qx95 qr95 => ?_
  obtain ⟨o3, h2, h⟩ := bindM h
  refine COk.joinR (ι := { s : Bool // o3 = s }) (fun s => [(1, .sl 4 (List.map eTl a1)), (2, .int a2), (3, .int a3), (4, .ptr 4 0), (9, .nilsl), (37, .bool s.1)]) (fun s => [(4, .box (eWd a0) 55)]) (fun Q96 qn96 qx96 qr96 => ?_) (by intro s; rw [hn]; rfl) ?_
  · refine gor hn ?_
    refine bselM h2 (fun hb4 h2 => ?_) (fun hb4 h2 => ?_)
    · refine bselT hb4 ?_
      refine bselT hb4 ?_
      refine bselT hb4 ?_
      refine bselT hb4 ?_
      refine bselT hb4 ?_
      refine qn96 _ _ ?_
      obtain rfl := Option.some.inj h2
      refine EOk.done ?_
      exact ⟨⟨_, rfl⟩, [], trivial, ⟨⟨(by repeat (first | exact trivial | exact rfl | (refine And.intro ?_ ?_))), rfl, rfl, rfl, (by repeat (first | exact trivial | exact rfl | (refine And.intro ?_ ?_))), rfl, trivial⟩, ⟨rfl, trivial⟩, rfl, rfl⟩⟩
    · refine bselF hb4 ?_
      refine bselF hb4 ?_
      refine bselF hb4 ?_
      refine lenM (fun hl5 => ?_)
      refine bselF hb4 ?_
      refine bselF hb4 ?_
      refine bselM h2 (fun hb6 h2 => ?_) (fun hb6 h2 => ?_)
      · refine bselT hb6 ?_
        refine bselT hb6 ?_
        refine qn96 _ _ ?_
        obtain rfl := Option.some.inj h2
        refine EOk.done ?_
        exact ⟨⟨_, rfl⟩, [], trivial, ⟨⟨(by repeat (first | exact trivial | exact rfl | (refine And.intro ?_ ?_))), rfl, rfl, rfl, (by repeat (first | exact trivial | exact rfl | (refine And.intro ?_ ?_))), rfl, trivial⟩, ⟨rfl, trivial⟩, rfl, rfl⟩⟩
      · refine bselF hb6 ?_
        refine bselF hb6 ?_
        refine bselM h2 (fun hb7 h2 => ?_) (fun hb7 h2 => ?_)
        · refine bselT hb7 ?_
          refine bselT hb7 ?_
          refine bselT hb7 ?_
          refine bselT hb7 ?_
          refine bselT hb7 ?_
          refine bselT hb7 ?_
          refine bselT hb7 ?_
          refine bselT hb7 ?_
          refine bselT hb7 ?_
          refine qn96 _ _ ?_
          obtain rfl := Option.some.inj h2
          refine EOk.done ?_
          exact ⟨⟨_, rfl⟩, [], trivial, ⟨⟨(by repeat (first | exact trivial | exact rfl | (refine And.intro ?_ ?_))), rfl, rfl, rfl, (by repeat (first | exact trivial | exact rfl | (refine And.intro ?_ ?_))), rfl, trivial⟩, ⟨rfl, trivial⟩, rfl, rfl⟩⟩
        · refine bselF hb7 ?_
          refine bselF hb7 ?_
          refine bselF hb7 ?_
          refine bselF hb7 ?_
          obtain ⟨x8, hx9, h2⟩ := bindM h2
          refine idxM hx9 ?_
          refine bselF hb7 ?_
          refine bselF hb7 ?_
          refine bselF hb7 ?_
          refine lenM (fun hl10 => ?_)
          refine bselF hb7 ?_
          refine bselF hb7 ?_
          refine qn96 _ _ ?_
          obtain rfl := Option.some.inj h2
          refine EOk.done ?_
          exact ⟨⟨_, rfl⟩, [], trivial, ⟨⟨(by repeat (first | exact trivial | exact rfl | (refine And.intro ?_ ?_))), rfl, rfl, rfl, (by repeat (first | exact trivial | exact rfl | (refine And.intro ?_ ?_))), rfl, trivial⟩, ⟨rfl, trivial⟩, rfl, rfl⟩⟩
  rintro ⟨v1, hv_⟩
  replace hv_ := hv_.symm
  subst hv_
  refine qn95 _ _ ?_
  refine goc hn ?_
  refine bselM h (fun hb11 h => ?_) (fun hb11 h => ?_)
  · refine COk.seqQ fun Q98 qn98 qx98 qr98 => ?_
    refine gor hn ?_
    refine qn98 _ _ ?_
    refine COk.nilrow 8 208 1 3 rfl rfl rfl ?_
    refine got hn ?_
    refine qr94 _ _ ?_
    obtain rfl := Option.some.inj h
    exact ⟨[(0, 208)], _, rfl, (by repeat (first | exact trivial | exact rfl | (refine And.intro ?_ ?_))), ⟨rfl, trivial⟩, rfl, rfl, rfl, rfl, rfl⟩
  · refine gok hn ?_
    refine qn94 _ _ ?_
    refine COk.seqQ fun Q99 qn99 qx99 qr99 => ?_
    refine gor hn ?_
    obtain ⟨x12, hx13, h⟩ := bindM h
    refine idxM hx13 ?_
    obtain ⟨x14, hx15, h⟩ := bindM h
    refine idxM hx15 ?_
    refine qn99 _ _ ?_
    refine COk.seqQ fun Q100 qn100 qx100 qr100 => ?_
    refine COk.seqQ fun Q101 qn101 qx101 qr101 => ?_
    refine gor hn ?_
    refine lenM (fun hl16 => ?_)
    refine qn101 _ _ ?_
    refine COk.nilrow 9 209 1 3 rfl rfl rfl ?_
    obtain ⟨o21, h22, h⟩ := bindM h
    refine COk.joinR (ι := { s : (List Int) // o21 = s }) (fun s => [(9, .own 209)]) (fun s => [(209, .row 1 (List.map eInt s.1) 3)]) (fun Q162 qn162 qx162 qr162 => ?_) (by intro s; rw [hn]; rfl) ?_
    · refine COk.blkQ fun Q163 qn163 qe163 qx163 qr163 => ?_
      refine COk.loopQ (ι := { q : ((List Ins) × Nat × (List Int)) // q.1 = x14.code.drop q.2.1 ∧ qcref5_Sites_l1 N a0 a1 a2 x14 q.1 q.2.1 q.2.2 = some o21 }) (fun q => [(1, .sl 4 (List.map eTl a1)), (2, .int a2), (4, .ptr 4 0), (9, .own 209), (10, .ptr 10 0), (49, .sl 5 (List.map eIns x14.code)), (50, .int (x14.code.length : Int)), (51, .int (q.1.2.1 : Int))]) (fun q => [(4, .box (eWd a0) 55), (10, .box (eMe x14) 74), (209, .row 1 (List.map eInt q.1.2.2) 3)]) (fun q => q.1.1.length) ⟨(x14.code, 0, ([] : List Int)), rfl, h22⟩ [] ⟨⟨(by repeat (first | exact trivial | exact rfl | (refine And.intro ?_ ?_))), rfl, rfl, rfl, rfl, (by repeat (first | exact trivial | exact rfl | (refine And.intro ?_ ?_))), rfl, rfl, trivial⟩, ⟨rfl, rfl, rfl, trivial⟩, rfl, rfl⟩ (by intro q; rw [hn]; rfl) ?_
      rintro ⟨⟨rest_, k17, v18⟩, hd24, h22⟩ Q164 qn164 qx164 qr164
      replace hd24 : rest_ = x14.code.drop k17 := hd24
      rcases rest_ with _ | ⟨x26, rest23⟩
      · have hlt28 := restNil hd24
        replace h22 := (qcref5_Sites_l1.eq_1 _ _ _ _ _ _ _).symm.trans h22
        refine COk.seqQ fun Q165 qn165 qx165 qr165 => ?_
        refine gor hn ?_
        refine qn165 _ _ ?_
        refine COk.seqQ fun Q166 qn166 qx166 qr166 => ?_
        refine goc hn ?_
        refine bselF hlt28 ?_
        refine goe hn ?_
        refine qx166 _ _ _ ?_
        refine qx164 _ _ _ ?_
        refine qe163 _ _ ?_
        refine qn162 _ _ ?_
        obtain rfl := Option.some.inj h22
        refine EOk.done ?_
        exact ⟨⟨_, rfl⟩, [], trivial, ⟨⟨rfl, trivial⟩, ⟨rfl, trivial⟩, rfl, rfl⟩⟩
      · obtain ⟨hx27, hd2, hlt28⟩ := restCons hd24
        replace h22 := (qcref5_Sites_l1.eq_2 _ _ _ _ _ _ _ _ _).symm.trans h22
        refine COk.seqQ fun Q167 qn167 qx167 qr167 => ?_
        refine gor hn ?_
        refine qn167 _ _ ?_
        refine COk.seqQ fun Q168 qn168 qx168 qr168 => ?_
        refine goc hn ?_
        refine bselT hlt28 ?_
        refine gok hn ?_
        refine qn168 _ _ ?_
        refine COk.seqQ fun Q169 qn169 qx169 qr169 => ?_
        refine COk.blkQ fun Q176 qn176 qe176 qx176 qr176 => ?_
        refine COk.seqQ fun Q177 qn177 qx177 qr177 => ?_
        refine gor hn ?_
        refine idxK hx27 ?_
        refine qn177 _ _ ?_
        refine COk.seqQ fun Q178 qn178 qx178 qr178 => ?_
        refine gor hn ?_
        refine qn178 _ _ ?_
        refine COk.seqQ fun Q179 qn179 qx179 qr179 => ?_
        refine COk.seqQ fun Q180 qn180 qx180 qr180 => ?_
        refine gor hn ?_
        refine qn180 _ _ ?_
        obtain ⟨o31, h30, h22⟩ := bindM h22
        refine COk.joinR (ι := { s : Int // o31 = s }) (fun s => [(1, .sl 4 (List.map eTl a1)), (2, .int a2), (4, .ptr 4 0), (9, .own 209), (10, .ptr 10 0), (13, .int s.1), (49, .sl 5 (List.map eIns x14.code)), (50, .int (x14.code.length : Int)), (51, .int (k17 : Int))]) (fun s => [(4, .box (eWd a0) 55), (10, .box (eMe x14) 74), (209, .row 1 (List.map eInt v18) 3)]) (fun Q181 qn181 qx181 qr181 => ?_) (by intro s; rw [hn]; rfl) ?_
        · refine goc hn ?_
          refine bselM h30 (fun hb32 h30 => ?_) (fun hb32 h30 => ?_)
          · refine COk.sub (ts2 := [(1, .sl 4 (List.map eTl a1)), (2, .int a2), (4, .ptr 4 0), (9, .own 209), (10, .ptr 10 0), (11, .int (k17 : Int)), (12, .ptr 12 0), (49, .sl 5 (List.map eIns x14.code)), (50, .int (x14.code.length : Int)), (51, .int (k17 : Int))]) (os2 := [(4, .box (eWd a0) 55), (10, .box (eMe x14) 74), (12, .box (eIns x26) 81), (209, .row 1 (List.map eInt v18) 3)]) [] ⟨⟨(by repeat (first | exact trivial | exact rfl | (refine And.intro ?_ ?_))), rfl, rfl, rfl, rfl, rfl, rfl, (by repeat (first | exact trivial | exact rfl | (refine And.intro ?_ ?_))), rfl, rfl, trivial⟩, ⟨rfl, rfl, rfl, rfl, trivial⟩, rfl, rfl⟩ (by rw [hn]; rfl) ?_
            refine gor hn ?_
            obtain ⟨r33, hr34, h30⟩ := bindM h30
            show CallOk Try.prog _ _ _ _
            refine CallOk.as (qcref5_Site_ok N a0 a1 (⟨a2, x14.name, (k17 : Int)⟩ : St) x26.name x26.a r33 hr34) (by repeat (first | exact trivial | exact rfl | (refine And.intro ?_ ?_))) trivial rfl ?_
            refine qn181 _ _ ?_
            obtain rfl := Option.some.inj h30
            refine EOk.done ?_
            exact ⟨⟨_, rfl⟩, [], trivial, ⟨⟨(by repeat (first | exact trivial | exact rfl | (refine And.intro ?_ ?_))), rfl, rfl, rfl, rfl, rfl, (by repeat (first | exact trivial | exact rfl | (refine And.intro ?_ ?_))), rfl, rfl, trivial⟩, ⟨rfl, rfl, rfl, trivial⟩, rfl, rfl⟩⟩
          · refine gok hn ?_
            refine qn181 _ _ ?_
            obtain rfl := Option.some.inj h30
            refine EOk.done ?_
            exact ⟨⟨_, rfl⟩, [], trivial, ⟨⟨(by repeat (first | exact trivial | exact rfl | (refine And.intro ?_ ?_))), rfl, rfl, rfl, rfl, rfl, (by repeat (first | exact trivial | exact rfl | (refine And.intro ?_ ?_))), rfl, rfl, trivial⟩, ⟨rfl, rfl, rfl, trivial⟩, rfl, rfl⟩⟩
        rintro ⟨v29, hv_⟩
        replace hv_ := hv_.symm
        subst hv_
        refine qn179 _ _ ?_
        refine gor hn ?_
        refine Exists.intro (List.map eInt [v29]) (And.intro (by repeat (first | exact trivial | exact rfl | (refine And.intro ?_ ?_))) ?_)
        obtain ⟨hg35, h22⟩ := guardM h22
        refine appM (l2 := [v29]) hg35 (leLs_refl _) ?_
        refine qn176 _ _ ?_
        refine qn169 _ _ ?_
        refine gor hn ?_
        refine Or.inl (And.intro (inrK hx27 hl16) ?_)
        refine qn164 _ _ ?_
        refine EOk.done ?_
        exact ⟨⟨(rest23, k17 + 1, (v18 ++ [v29])), hd2, h22⟩, [(209, 74)], by show rest23.length < rest23.length + 1; omega, ⟨⟨(by repeat (first | exact trivial | exact rfl | (refine And.intro ?_ ?_))), rfl, rfl, rfl, rfl, (by repeat (first | exact trivial | exact rfl | (refine And.intro ?_ ?_))), rfl, rfl, trivial⟩, ⟨rfl, rfl, rfl, trivial⟩, rfl, rfl⟩⟩
    rintro ⟨v20, hv_⟩
    replace hv_ := hv_.symm
    subst hv_
    refine qn100 _ _ ?_
    refine COk.seqQ fun Q182 qn182 qx182 qr182 => ?_
    refine gor hn ?_
    refine qn182 _ _ ?_
    refine got hn ?_
    obtain rfl := Option.some.inj h
    exact ⟨[(0, 209)], _, rfl, (by repeat (first | exact trivial | exact rfl | (refine And.intro ?_ ?_))), ⟨rfl, trivial⟩, rfl, rfl, rfl, rfl, rfl⟩

/- qclaw9.ChooseTells -/
set_option maxRecDepth 100000 in
set_option maxHeartbeats 1000000 in
theorem qclaw9_ChooseTells_ok (N : Nat) (a0 : Wd) (a1 : (List Tl)) (a2 : Int) (a3 : Int) (a4 : St) (a5 : ByteArray) (a6 : Int) (r : Bool) (h : qclaw9_ChooseTells N a0 a1 a2 a3 a4 a5 a6 = some r) : Spec Try.prog 8 [] [.agg (eWd a0), .sl 4 (List.map eTl a1), .int a2, .int a3, .agg (eSt a4), .str a5, .int a6] (.bool r) [] [] := by
  refine Spec.of tabOk Try.func8 rfl Try.ntmps8 (by kernel_rfl) rfl rfl rfl fun Γ hn => ?_
  unfold qclaw9_ChooseTells at h
  refine COk.seqQ fun Q435 qn435 qx435 qr435 => ?_
  refine gor hn ?_
  refine qn435 _ _ ?_
  refine COk.seqQ fun Q436 qn436 qx436 qr436 => ?_
  refine COk.seqQ fun Q437 qn437 qx437 qr437 => ?_
  obtain ⟨o3, h2, h⟩ := bindM h
  refine COk.joinR (ι := { s : Bool // o3 = s }) (fun s => [(1, .sl 4 (List.map eTl a1)), (2, .int a2), (3, .int a3), (5, .str a5), (6, .int a6), (7, .ptr 7 0), (11, .ptr 11 0), (29, .bool s.1)]) (fun s => [(7, .box (eWd a0) 55), (11, .box (eSt a4) 24)]) (fun Q438 qn438 qx438 qr438 => ?_) (by intro s; rw [hn]; rfl) ?_
  · refine gor hn ?_
    obtain ⟨r4, hr5, h2⟩ := bindM h2
    show CallOk Try.prog _ _ _ _
    refine CallOk.as (qcref1_Right_ok N a0 r4 hr5) (by repeat (first | exact trivial | exact rfl | (refine And.intro ?_ ?_))) trivial rfl ?_
    refine bselM h2 (fun hb6 h2 => ?_) (fun hb6 h2 => ?_)
    · refine bselT hb6 ?_
      refine bselT hb6 ?_
      refine bselT hb6 ?_
      refine qn438 _ _ ?_
      obtain rfl := Option.some.inj h2
      refine EOk.done ?_
      exact ⟨⟨_, rfl⟩, [], trivial, ⟨⟨(by repeat (first | exact trivial | exact rfl | (refine And.intro ?_ ?_))), rfl, rfl, rfl, rfl, rfl, rfl, rfl, trivial⟩, ⟨rfl, rfl, trivial⟩, rfl, rfl⟩⟩
    · refine bselF hb6 ?_
      obtain ⟨r7, hr8, h2⟩ := bindM h2
      show CallOk Try.prog _ _ _ _
      refine CallOk.as (qclaw9_small_ok N a1 r7 hr8) (by repeat (first | exact trivial | exact rfl | (refine And.intro ?_ ?_))) trivial rfl ?_
      refine bselF hb6 ?_
      refine bselF hb6 ?_
      refine qn438 _ _ ?_
      obtain rfl := Option.some.inj h2
      refine EOk.done ?_
      exact ⟨⟨_, rfl⟩, [], trivial, ⟨⟨(by repeat (first | exact trivial | exact rfl | (refine And.intro ?_ ?_))), rfl, rfl, rfl, rfl, rfl, rfl, rfl, trivial⟩, ⟨rfl, rfl, trivial⟩, rfl, rfl⟩⟩
  rintro ⟨v1, hv_⟩
  replace hv_ := hv_.symm
  subst hv_
  refine qn437 _ _ ?_
  refine goc hn ?_
  refine bselM h (fun hb9 h => ?_) (fun hb9 h => ?_)
  · refine COk.seqQ fun Q440 qn440 qx440 qr440 => ?_
    refine gor hn ?_
    refine qn440 _ _ ?_
    refine got hn ?_
    refine qr436 _ _ ?_
    obtain rfl := Option.some.inj h
    exact ⟨[], _, rfl, (by repeat (first | exact trivial | exact rfl | (refine And.intro ?_ ?_))), trivial, rfl, rfl, rfl, rfl, rfl⟩
  · refine gok hn ?_
    refine qn436 _ _ ?_
    refine COk.seqQ fun Q441 qn441 qx441 qr441 => ?_
    refine COk.seqQ fun Q442 qn442 qx442 qr442 => ?_
    refine gor hn ?_
    refine lenM (fun hl10 => ?_)
    refine qn442 _ _ ?_
    obtain ⟨o12, h13, h⟩ := bindM h
    refine COk.joinR (ι := { s : Unit // o12 = Ctl.next s }) (fun s => [(1, .sl 4 (List.map eTl a1)), (2, .int a2), (3, .int a3), (5, .str a5), (6, .int a6), (7, .ptr 7 0), (11, .ptr 11 0)]) (fun s => [(7, .box (eWd a0) 55), (11, .box (eSt a4) 24)]) (fun Q689 qn689 qx689 qr689 => ?_) (by intro s; rw [hn]; rfl) ?_
    · refine COk.blkQ fun Q690 qn690 qe690 qx690 qr690 => ?_
      refine COk.loopQ (ι := { q : ((List Cl) × Nat) // q.1 = a0.classes.drop q.2 ∧ qclaw9_ChooseTells_l1 N q.1 q.2 = some o12 }) (fun q => [(1, .sl 4 (List.map eTl a1)), (2, .int a2), (3, .int a3), (5, .str a5), (6, .int a6), (7, .ptr 7 0), (11, .ptr 11 0), (31, .sl 4 (List.map eCl a0.classes)), (32, .int (a0.classes.length : Int)), (33, .int (q.1.2 : Int))]) (fun q => [(7, .box (eWd a0) 55), (11, .box (eSt a4) 24)]) (fun q => q.1.1.length) ⟨(a0.classes, 0), rfl, h13⟩ [] ⟨⟨(by repeat (first | exact trivial | exact rfl | (refine And.intro ?_ ?_))), rfl, rfl, rfl, rfl, rfl, rfl, (by repeat (first | exact trivial | exact rfl | (refine And.intro ?_ ?_))), rfl, rfl, trivial⟩, ⟨rfl, rfl, trivial⟩, rfl, rfl⟩ (by intro q; rw [hn]; rfl) ?_
      rintro ⟨⟨rest_, k11⟩, hd15, h13⟩ Q691 qn691 qx691 qr691
      replace hd15 : rest_ = a0.classes.drop k11 := hd15
      rcases rest_ with _ | ⟨x17, rest14⟩
      · have hlt19 := restNil hd15
        replace h13 := (qclaw9_ChooseTells_l1.eq_1 _ _).symm.trans h13
        refine COk.seqQ fun Q692 qn692 qx692 qr692 => ?_
        refine gor hn ?_
        refine qn692 _ _ ?_
        refine COk.seqQ fun Q693 qn693 qx693 qr693 => ?_
        refine goc hn ?_
        refine bselF hlt19 ?_
        refine goe hn ?_
        refine qx693 _ _ _ ?_
        refine qx691 _ _ _ ?_
        refine qe690 _ _ ?_
        refine qn689 _ _ ?_
        obtain rfl := Option.some.inj h13
        refine EOk.done ?_
        exact ⟨⟨_, rfl⟩, [], trivial, ⟨⟨(by repeat (first | exact trivial | exact rfl | (refine And.intro ?_ ?_))), rfl, rfl, rfl, rfl, rfl, rfl, trivial⟩, ⟨rfl, rfl, trivial⟩, rfl, rfl⟩⟩
      · obtain ⟨hx18, hd2, hlt19⟩ := restCons hd15
        replace h13 := (qclaw9_ChooseTells_l1.eq_2 _ _ _ _).symm.trans h13
        refine COk.seqQ fun Q694 qn694 qx694 qr694 => ?_
        refine gor hn ?_
        refine qn694 _ _ ?_
        refine COk.seqQ fun Q695 qn695 qx695 qr695 => ?_
        refine goc hn ?_
        refine bselT hlt19 ?_
        refine gok hn ?_
        refine qn695 _ _ ?_
        refine COk.seqQ fun Q696 qn696 qx696 qr696 => ?_
        refine COk.blkQ fun Q757 qn757 qe757 qx757 qr757 => ?_
        refine COk.seqQ fun Q758 qn758 qx758 qr758 => ?_
        refine gor hn ?_
        refine idxK hx18 ?_
        refine qn758 _ _ ?_
        refine COk.seqQ fun Q759 qn759 qx759 qr759 => ?_
        refine gor hn ?_
        refine lenM (fun hl20 => ?_)
        refine qn759 _ _ ?_
        obtain ⟨o22, h23, h13⟩ := bindM h13
        refine COk.joinR (ι := { s : Unit // o22 = Ctl.next s }) (fun s => [(1, .sl 4 (List.map eTl a1)), (2, .int a2), (3, .int a3), (5, .str a5), (6, .int a6), (7, .ptr 7 0), (11, .ptr 11 0), (31, .sl 4 (List.map eCl a0.classes)), (32, .int (a0.classes.length : Int)), (33, .int (k11 : Int))]) (fun s => [(7, .box (eWd a0) 55), (11, .box (eSt a4) 24)]) (fun Q799 qn799 qx799 qr799 => ?_) (by intro s; rw [hn]; rfl) ?_
        · refine COk.blkQ fun Q800 qn800 qe800 qx800 qr800 => ?_
          refine COk.loopQ (ι := { q : ((List Me) × Nat) // q.1 = x17.methods.drop q.2 ∧ qclaw9_ChooseTells_l2 N q.1 q.2 = some o22 }) (fun q => [(1, .sl 4 (List.map eTl a1)), (2, .int a2), (3, .int a3), (5, .str a5), (6, .int a6), (7, .ptr 7 0), (11, .ptr 11 0), (31, .sl 4 (List.map eCl a0.classes)), (32, .int (a0.classes.length : Int)), (33, .int (k11 : Int)), (38, .sl 5 (List.map eMe x17.methods)), (39, .int (x17.methods.length : Int)), (40, .int (q.1.2 : Int))]) (fun q => [(7, .box (eWd a0) 55), (11, .box (eSt a4) 24)]) (fun q => q.1.1.length) ⟨(x17.methods, 0), rfl, h23⟩ [] ⟨⟨(by repeat (first | exact trivial | exact rfl | (refine And.intro ?_ ?_))), rfl, rfl, rfl, rfl, rfl, rfl, (by repeat (first | exact trivial | exact rfl | (refine And.intro ?_ ?_))), rfl, rfl, (by repeat (first | exact trivial | exact rfl | (refine And.intro ?_ ?_))), rfl, rfl, trivial⟩, ⟨rfl, rfl, trivial⟩, rfl, rfl⟩ (by intro q; rw [hn]; rfl) ?_
          rintro ⟨⟨rest_, k21⟩, hd25, h23⟩ Q801 qn801 qx801 qr801
          replace hd25 : rest_ = x17.methods.drop k21 := hd25
          rcases rest_ with _ | ⟨x27, rest24⟩
          · have hlt29 := restNil hd25
            replace h23 := (qclaw9_ChooseTells_l2.eq_1 _ _).symm.trans h23
            refine COk.seqQ fun Q802 qn802 qx802 qr802 => ?_
            refine gor hn ?_
            refine qn802 _ _ ?_
            refine COk.seqQ fun Q803 qn803 qx803 qr803 => ?_
            refine goc hn ?_
            refine bselF hlt29 ?_
            refine goe hn ?_
            refine qx803 _ _ _ ?_
            refine qx801 _ _ _ ?_
            refine qe800 _ _ ?_
            refine qn799 _ _ ?_
            obtain rfl := Option.some.inj h23
            refine EOk.done ?_
            exact ⟨⟨_, rfl⟩, [], trivial, ⟨⟨(by repeat (first | exact trivial | exact rfl | (refine And.intro ?_ ?_))), rfl, rfl, rfl, rfl, rfl, rfl, (by repeat (first | exact trivial | exact rfl | (refine And.intro ?_ ?_))), rfl, rfl, trivial⟩, ⟨rfl, rfl, trivial⟩, rfl, rfl⟩⟩
          · obtain ⟨hx28, hd2, hlt29⟩ := restCons hd25
            replace h23 := (qclaw9_ChooseTells_l2.eq_2 _ _ _ _).symm.trans h23
            refine COk.seqQ fun Q804 qn804 qx804 qr804 => ?_
            refine gor hn ?_
            refine qn804 _ _ ?_
            refine COk.seqQ fun Q805 qn805 qx805 qr805 => ?_
            refine goc hn ?_
            refine bselT hlt29 ?_
            refine gok hn ?_
            refine qn805 _ _ ?_
            refine COk.seqQ fun Q806 qn806 qx806 qr806 => ?_
            refine COk.blkQ fun Q812 qn812 qe812 qx812 qr812 => ?_
            refine COk.seqQ fun Q813 qn813 qx813 qr813 => ?_
            refine gor hn ?_
            refine idxK hx28 ?_
            refine qn813 _ _ ?_
            refine COk.seqQ fun Q814 qn814 qx814 qr814 => ?_
            refine COk.sub (ts2 := [(1, .sl 4 (List.map eTl a1)), (2, .int a2), (3, .int a3), (5, .str a5), (6, .int a6), (7, .ptr 7 0), (11, .ptr 11 0), (18, .ptr 18 0), (31, .sl 4 (List.map eCl a0.classes)), (32, .int (a0.classes.length : Int)), (33, .int (k11 : Int)), (38, .sl 5 (List.map eMe x17.methods)), (39, .int (x17.methods.length : Int)), (40, .int (k21 : Int))]) (os2 := [(7, .box (eWd a0) 55), (11, .box (eSt a4) 24), (18, .box (eMe x27) 74)]) [] ⟨⟨(by repeat (first | exact trivial | exact rfl | (refine And.intro ?_ ?_))), rfl, rfl, rfl, rfl, rfl, rfl, rfl, (by repeat (first | exact trivial | exact rfl | (refine And.intro ?_ ?_))), rfl, rfl, (by repeat (first | exact trivial | exact rfl | (refine And.intro ?_ ?_))), rfl, rfl, trivial⟩, ⟨rfl, rfl, rfl, trivial⟩, rfl, rfl⟩ (by rw [hn]; rfl) ?_
            refine god hn (by kernel_rfl) ?_
            obtain ⟨r30, hr31, h23⟩ := bindM h23
            show CallOk Try.prog _ _ _ _
            refine CallOk.as (choose_Leaf_ok N x27 r30 hr31) (by repeat (first | exact trivial | exact rfl | (refine And.intro ?_ ?_))) trivial rfl ?_
            obtain ⟨r32, hr33, h23⟩ := bindM h23
            show CallOk Try.prog _ _ _ _
            refine CallOk.as (qcref5_Leaf_ok N x27 r32 hr33) (by repeat (first | exact trivial | exact rfl | (refine And.intro ?_ ?_))) trivial rfl ?_
            refine qn814 _ _ ?_
            refine goc hn ?_
            refine bselM h23 (fun hb34 h23 => ?_) (fun hb34 h23 => ?_)
            · refine COk.seqQ fun Q816 qn816 qx816 qr816 => ?_
              refine COk.sub (ts2 := []) (os2 := []) [] ⟨trivial, trivial, rfl, rfl⟩ (by rw [hn]; rfl) ?_
              refine gor hn ?_
              refine qn816 _ _ ?_
              refine got hn ?_
              refine qr812 _ _ ?_
              refine qr806 _ _ ?_
              refine qr801 _ _ ?_
              refine qr800 _ _ ?_
              refine qr799 _ _ ?_
              refine qr757 _ _ ?_
              refine qr696 _ _ ?_
              refine qr691 _ _ ?_
              refine qr690 _ _ ?_
              refine qr689 _ _ ?_
              refine qr441 _ _ ?_
              obtain rfl := Option.some.inj h23
              obtain rfl := Option.some.inj h13
              obtain rfl := Option.some.inj h
              exact ⟨[], _, rfl, (by repeat (first | exact trivial | exact rfl | (refine And.intro ?_ ?_))), trivial, rfl, rfl, rfl, rfl, rfl⟩
            · refine gok hn ?_
              refine qn812 _ _ ?_
              refine qn806 _ _ ?_
              refine COk.sub (ts2 := [(1, .sl 4 (List.map eTl a1)), (2, .int a2), (3, .int a3), (5, .str a5), (6, .int a6), (7, .ptr 7 0), (11, .ptr 11 0), (31, .sl 4 (List.map eCl a0.classes)), (32, .int (a0.classes.length : Int)), (33, .int (k11 : Int)), (38, .sl 5 (List.map eMe x17.methods)), (39, .int (x17.methods.length : Int)), (40, .int (k21 : Int))]) (os2 := [(7, .box (eWd a0) 55), (11, .box (eSt a4) 24)]) [] ⟨⟨(by repeat (first | exact trivial | exact rfl | (refine And.intro ?_ ?_))), rfl, rfl, rfl, rfl, rfl, rfl, (by repeat (first | exact trivial | exact rfl | (refine And.intro ?_ ?_))), rfl, rfl, (by repeat (first | exact trivial | exact rfl | (refine And.intro ?_ ?_))), rfl, rfl, trivial⟩, ⟨rfl, rfl, trivial⟩, rfl, rfl⟩ (by rw [hn]; rfl) ?_
              refine gor hn ?_
              refine Or.inl (And.intro (inrK hx28 hl20) ?_)
              refine qn801 _ _ ?_
              refine EOk.done ?_
              exact ⟨⟨(rest24, k21 + 1), hd2, h23⟩, [], by show rest24.length < rest24.length + 1; omega, ⟨⟨(by repeat (first | exact trivial | exact rfl | (refine And.intro ?_ ?_))), rfl, rfl, rfl, rfl, rfl, rfl, (by repeat (first | exact trivial | exact rfl | (refine And.intro ?_ ?_))), rfl, rfl, (by repeat (first | exact trivial | exact rfl | (refine And.intro ?_ ?_))), rfl, rfl, trivial⟩, ⟨rfl, rfl, trivial⟩, rfl, rfl⟩⟩
        rintro ⟨⟨⟩, rfl⟩
        refine qn757 _ _ ?_
        refine qn696 _ _ ?_
        refine gor hn ?_
        refine Or.inl (And.intro (inrK hx18 hl10) ?_)
        refine qn691 _ _ ?_
        refine EOk.done ?_
        exact ⟨⟨(rest14, k11 + 1), hd2, h13⟩, [], by show rest14.length < rest14.length + 1; omega, ⟨⟨(by repeat (first | exact trivial | exact rfl | (refine And.intro ?_ ?_))), rfl, rfl, rfl, rfl, rfl, rfl, (by repeat (first | exact trivial | exact rfl | (refine And.intro ?_ ?_))), rfl, rfl, trivial⟩, ⟨rfl, rfl, trivial⟩, rfl, rfl⟩⟩
    rintro ⟨⟨⟩, rfl⟩
    refine qn441 _ _ ?_
    refine COk.seqQ fun Q817 qn817 qx817 qr817 => ?_
    refine god hn (by kernel_rfl) ?_
    obtain ⟨r35, hr36, h⟩ := bindM h
    show CallOk Try.prog _ _ _ _
    refine CallOk.as ((choose_Sites_ok N a0 a1 a2 a3 r35 hr36).sw 0 55) (by repeat (first | exact trivial | exact rfl | (refine And.intro ?_ ?_))) trivial rfl ?_
    obtain ⟨r37, hr38, h⟩ := bindM h
    show CallOk Try.prog _ _ _ _
    refine CallOk.as ((qcref5_Sites_ok N a0 a1 a2 a3 r37 hr38).sw 0 60) (by repeat (first | exact trivial | exact rfl | (refine And.intro ?_ ?_))) trivial rfl ?_
    refine qn817 _ _ ?_
    refine COk.seqQ fun Q818 qn818 qx818 qr818 => ?_
    refine COk.seqQ fun Q819 qn819 qx819 qr819 => ?_
    refine COk.sub (ts2 := [(1, .sl 4 (List.map eTl a1)), (5, .str a5), (6, .int a6), (7, .ptr 7 0), (11, .ptr 11 0), (19, .own 55), (20, .own 60)]) (os2 := [(7, .box (eWd a0) 55), (11, .box (eSt a4) 24), (55, .row 1 (List.map eInt r35) 3), (60, .row 1 (List.map eInt r37) 3)]) [] ⟨⟨(by repeat (first | exact trivial | exact rfl | (refine And.intro ?_ ?_))), rfl, rfl, rfl, rfl, rfl, rfl, trivial⟩, ⟨rfl, rfl, rfl, rfl, trivial⟩, rfl, rfl⟩ (by rw [hn]; rfl) ?_
    refine gor hn ?_
    refine lenM (fun hl39 => ?_)
    refine lenM (fun hl40 => ?_)
    refine qn819 _ _ ?_
    refine goc hn ?_
    refine bselM h (fun hb41 h => ?_) (fun hb41 h => ?_)
    · refine COk.seqQ fun Q821 qn821 qx821 qr821 => ?_
      refine gor hn ?_
      refine qn821 _ _ ?_
      refine got hn ?_
      refine qr818 _ _ ?_
      obtain rfl := Option.some.inj h
      exact ⟨[], _, rfl, (by repeat (first | exact trivial | exact rfl | (refine And.intro ?_ ?_))), trivial, rfl, rfl, rfl, rfl, rfl⟩
    · refine gok hn ?_
      refine qn818 _ _ ?_
      refine COk.seqQ fun Q822 qn822 qx822 qr822 => ?_
      refine COk.seqQ fun Q823 qn823 qx823 qr823 => ?_
      refine gor hn ?_
      refine lenM (fun hl42 => ?_)
      refine qn823 _ _ ?_
      obtain ⟨o44, h45, h⟩ := bindM h
      refine COk.joinR (ι := { s : Unit // o44 = Ctl.next s }) (fun s => [(1, .sl 4 (List.map eTl a1)), (5, .str a5), (6, .int a6), (7, .ptr 7 0), (11, .ptr 11 0)]) (fun s => [(7, .box (eWd a0) 55), (11, .box (eSt a4) 24)]) (fun Q850 qn850 qx850 qr850 => ?_) (by intro s; rw [hn]; rfl) ?_
      · refine COk.blkQ fun Q851 qn851 qe851 qx851 qr851 => ?_
        refine COk.loopQ (ι := { q : ((List Int) × Nat) // q.1 = r35.drop q.2 ∧ qclaw9_ChooseTells_l3 N r35 r37 q.1 q.2 = some o44 }) (fun q => [(1, .sl 4 (List.map eTl a1)), (5, .str a5), (6, .int a6), (7, .ptr 7 0), (11, .ptr 11 0), (19, .own 55), (20, .own 60), (67, .int (r35.length : Int)), (68, .int (q.1.2 : Int))]) (fun q => [(7, .box (eWd a0) 55), (11, .box (eSt a4) 24), (55, .row 1 (List.map eInt r35) 3), (60, .row 1 (List.map eInt r37) 3)]) (fun q => q.1.1.length) ⟨(r35, 0), rfl, h45⟩ [] ⟨⟨(by repeat (first | exact trivial | exact rfl | (refine And.intro ?_ ?_))), rfl, rfl, rfl, rfl, rfl, rfl, rfl, rfl, trivial⟩, ⟨rfl, rfl, rfl, rfl, trivial⟩, rfl, rfl⟩ (by intro q; rw [hn]; rfl) ?_
        rintro ⟨⟨rest_, k43⟩, hd47, h45⟩ Q852 qn852 qx852 qr852
        replace hd47 : rest_ = r35.drop k43 := hd47
        rcases rest_ with _ | ⟨x49, rest46⟩
        · have hlt51 := restNil hd47
          replace h45 := (qclaw9_ChooseTells_l3.eq_1 _ _ _ _).symm.trans h45
          refine COk.seqQ fun Q853 qn853 qx853 qr853 => ?_
          refine gor hn ?_
          refine qn853 _ _ ?_
          refine COk.seqQ fun Q854 qn854 qx854 qr854 => ?_
          refine goc hn ?_
          refine bselF hlt51 ?_
          refine goe hn ?_
          refine qx854 _ _ _ ?_
          refine qx852 _ _ _ ?_
          refine qe851 _ _ ?_
          refine qn850 _ _ ?_
          obtain rfl := Option.some.inj h45
          refine EOk.done ?_
          exact ⟨⟨_, rfl⟩, [], trivial, ⟨⟨(by repeat (first | exact trivial | exact rfl | (refine And.intro ?_ ?_))), rfl, rfl, rfl, rfl, trivial⟩, ⟨rfl, rfl, trivial⟩, rfl, rfl⟩⟩
        · obtain ⟨hx50, hd2, hlt51⟩ := restCons hd47
          replace h45 := (qclaw9_ChooseTells_l3.eq_2 _ _ _ _ _ _).symm.trans h45
          refine COk.seqQ fun Q855 qn855 qx855 qr855 => ?_
          refine gor hn ?_
          refine qn855 _ _ ?_
          refine COk.seqQ fun Q856 qn856 qx856 qr856 => ?_
          refine goc hn ?_
          refine bselT hlt51 ?_
          refine gok hn ?_
          refine qn856 _ _ ?_
          refine COk.seqQ fun Q857 qn857 qx857 qr857 => ?_
          refine COk.blkQ fun Q863 qn863 qe863 qx863 qr863 => ?_
          refine COk.seqQ fun Q864 qn864 qx864 qr864 => ?_
          refine gor hn ?_
          refine qn864 _ _ ?_
          refine COk.seqQ fun Q865 qn865 qx865 qr865 => ?_
          refine god hn (by kernel_rfl) ?_
          obtain ⟨x52, hx53, h45⟩ := bindM h45
          refine ownM hx53 ?_
          refine ldM (nthO_some hx53).2 ?_
          obtain ⟨x54, hx55, h45⟩ := bindM h45
          refine ownM hx55 ?_
          refine ldM (nthO_some hx55).2 ?_
          refine qn865 _ _ ?_
          refine goc hn ?_
          refine bselM h45 (fun hb56 h45 => ?_) (fun hb56 h45 => ?_)
          · refine COk.seqQ fun Q867 qn867 qx867 qr867 => ?_
            refine COk.sub (ts2 := []) (os2 := []) [] ⟨trivial, trivial, rfl, rfl⟩ (by rw [hn]; rfl) ?_
            refine gor hn ?_
            refine qn867 _ _ ?_
            refine got hn ?_
            refine qr863 _ _ ?_
            refine qr857 _ _ ?_
            refine qr852 _ _ ?_
            refine qr851 _ _ ?_
            refine qr850 _ _ ?_
            refine qr822 _ _ ?_
            obtain rfl := Option.some.inj h45
            obtain rfl := Option.some.inj h
            exact ⟨[], _, rfl, (by repeat (first | exact trivial | exact rfl | (refine And.intro ?_ ?_))), trivial, rfl, rfl, rfl, rfl, rfl⟩
          · refine gok hn ?_
            refine qn863 _ _ ?_
            refine qn857 _ _ ?_
            refine COk.sub (ts2 := [(1, .sl 4 (List.map eTl a1)), (5, .str a5), (6, .int a6), (7, .ptr 7 0), (11, .ptr 11 0), (19, .own 55), (20, .own 60), (67, .int (r35.length : Int)), (68, .int (k43 : Int))]) (os2 := [(7, .box (eWd a0) 55), (11, .box (eSt a4) 24), (55, .row 1 (List.map eInt r35) 3), (60, .row 1 (List.map eInt r37) 3)]) [] ⟨⟨(by repeat (first | exact trivial | exact rfl | (refine And.intro ?_ ?_))), rfl, rfl, rfl, rfl, rfl, rfl, rfl, rfl, trivial⟩, ⟨rfl, rfl, rfl, rfl, trivial⟩, rfl, rfl⟩ (by rw [hn]; rfl) ?_
            refine gor hn ?_
            refine Or.inl (And.intro (inrK hx50 hl42) ?_)
            refine qn852 _ _ ?_
            refine EOk.done ?_
            exact ⟨⟨(rest46, k43 + 1), hd2, h45⟩, [], by show rest46.length < rest46.length + 1; omega, ⟨⟨(by repeat (first | exact trivial | exact rfl | (refine And.intro ?_ ?_))), rfl, rfl, rfl, rfl, rfl, rfl, rfl, rfl, trivial⟩, ⟨rfl, rfl, rfl, rfl, trivial⟩, rfl, rfl⟩⟩
      rintro ⟨⟨⟩, rfl⟩
      refine qn822 _ _ ?_
      refine COk.seqQ fun Q868 qn868 qx868 qr868 => ?_
      refine god hn (by kernel_rfl) ?_
      obtain ⟨r57, hr58, h⟩ := bindM h
      show CallOk Try.prog _ _ _ _
      refine CallOk.as (choose_Site_ok N a0 a1 a4 a5 a6 r57 hr58) (by repeat (first | exact trivial | exact rfl | (refine And.intro ?_ ?_))) trivial rfl ?_
      obtain ⟨r59, hr60, h⟩ := bindM h
      show CallOk Try.prog _ _ _ _
      refine CallOk.as (qcref5_Site_ok N a0 a1 a4 a5 a6 r59 hr60) (by repeat (first | exact trivial | exact rfl | (refine And.intro ?_ ?_))) trivial rfl ?_
      refine qn868 _ _ ?_
      refine got hn ?_
      obtain rfl := Option.some.inj h
      exact ⟨[], _, rfl, (by repeat (first | exact trivial | exact rfl | (refine And.intro ?_ ?_))), trivial, rfl, rfl, rfl, rfl, rfl⟩

/- qcref1.Make -/
set_option maxRecDepth 100000 in
set_option maxHeartbeats 1000000 in
theorem qcref1_Make_ok (N : Nat) (a0 : Wd) (a1 : ByteArray) (a2 : Int) (a3 : Int) (r : (Wd × Int × Int)) (h : qcref1_Make N a0 a1 a2 a3 = some r) : Spec Try.prog 69 [] [.agg (eWd a0), .str a1, .int a2, .int a3] (.tup [.agg (eWd r.1), .int r.2.1, .int r.2.2]) [] [] := by
  refine Spec.of tabOk Try.func69 rfl Try.ntmps69 (by kernel_rfl) rfl rfl rfl fun Γ hn => ?_
  unfold qcref1_Make at h
  refine COk.seqQ fun Q69 qn69 qx69 qr69 => ?_
  refine gor hn ?_
  refine qn69 _ _ ?_
  refine COk.seqQ fun Q70 qn70 qx70 qr70 => ?_
  refine COk.seqQ fun Q71 qn71 qx71 qr71 => ?_
  refine gor hn ?_
  obtain ⟨r1, hr2, h⟩ := bindM h
  show CallOk Try.prog _ _ _ _
  refine CallOk.as (qcref1_Name_ok N a1 r1 hr2) (by repeat (first | exact trivial | exact rfl | (refine And.intro ?_ ?_))) trivial rfl ?_
  refine qn71 _ _ ?_
  refine goc hn ?_
  refine bselM h (fun hb3 h => ?_) (fun hb3 h => ?_)
  · refine COk.seqQ fun Q73 qn73 qx73 qr73 => ?_
    refine gor hn ?_
    refine qn73 _ _ ?_
    refine got hn ?_
    refine qr70 _ _ ?_
    obtain rfl := Option.some.inj h
    exact ⟨[], _, rfl, (by repeat (first | exact trivial | exact rfl | (refine And.intro ?_ ?_))), trivial, rfl, rfl, rfl, rfl, rfl⟩
  · refine gok hn ?_
    refine qn70 _ _ ?_
    refine COk.seqQ fun Q74 qn74 qx74 qr74 => ?_
    refine COk.seqQ fun Q75 qn75 qx75 qr75 => ?_
    refine gor hn ?_
    refine lenM (fun hl4 => ?_)
    refine qn75 _ _ ?_
    obtain ⟨o6, h7, h⟩ := bindM h
    refine COk.joinR (ι := { s : Unit // o6 = Ctl.next s }) (fun s => [(1, .str a1), (2, .int a2), (3, .int a3), (4, .ptr 4 0), (8, .ptr 8 0)]) (fun s => [(4, .box (eWd a0) 55), (8, .box [.nilsl, .nilsl, .int (0 : Int)] 55)]) (fun Q102 qn102 qx102 qr102 => ?_) (by intro s; rw [hn]; rfl) ?_
    · refine COk.blkQ fun Q103 qn103 qe103 qx103 qr103 => ?_
      refine COk.loopQ (ι := { q : ((List Cl) × Nat) // q.1 = a0.classes.drop q.2 ∧ qcref1_Make_l1 N a1 q.1 q.2 = some o6 }) (fun q => [(1, .str a1), (2, .int a2), (3, .int a3), (4, .ptr 4 0), (8, .ptr 8 0), (19, .sl 4 (List.map eCl a0.classes)), (20, .int (a0.classes.length : Int)), (21, .int (q.1.2 : Int))]) (fun q => [(4, .box (eWd a0) 55), (8, .box [.nilsl, .nilsl, .int (0 : Int)] 55)]) (fun q => q.1.1.length) ⟨(a0.classes, 0), rfl, h7⟩ [] ⟨⟨rfl, rfl, rfl, rfl, rfl, (by repeat (first | exact trivial | exact rfl | (refine And.intro ?_ ?_))), rfl, rfl, trivial⟩, ⟨rfl, rfl, trivial⟩, rfl, rfl⟩ (by intro q; rw [hn]; rfl) ?_
      rintro ⟨⟨rest_, k5⟩, hd9, h7⟩ Q104 qn104 qx104 qr104
      replace hd9 : rest_ = a0.classes.drop k5 := hd9
      rcases rest_ with _ | ⟨x11, rest8⟩
      · have hlt13 := restNil hd9
        replace h7 := (qcref1_Make_l1.eq_1 _ _ _).symm.trans h7
        refine COk.seqQ fun Q105 qn105 qx105 qr105 => ?_
        refine gor hn ?_
        refine qn105 _ _ ?_
        refine COk.seqQ fun Q106 qn106 qx106 qr106 => ?_
        refine goc hn ?_
        refine bselF hlt13 ?_
        refine goe hn ?_
        refine qx106 _ _ _ ?_
        refine qx104 _ _ _ ?_
        refine qe103 _ _ ?_
        refine qn102 _ _ ?_
        obtain rfl := Option.some.inj h7
        refine EOk.done ?_
        exact ⟨⟨_, rfl⟩, [], trivial, ⟨⟨rfl, rfl, rfl, rfl, rfl, trivial⟩, ⟨rfl, rfl, trivial⟩, rfl, rfl⟩⟩
      · obtain ⟨hx12, hd2, hlt13⟩ := restCons hd9
        replace h7 := (qcref1_Make_l1.eq_2 _ _ _ _ _).symm.trans h7
        refine COk.seqQ fun Q107 qn107 qx107 qr107 => ?_
        refine gor hn ?_
        refine qn107 _ _ ?_
        refine COk.seqQ fun Q108 qn108 qx108 qr108 => ?_
        refine goc hn ?_
        refine bselT hlt13 ?_
        refine gok hn ?_
        refine qn108 _ _ ?_
        refine COk.seqQ fun Q109 qn109 qx109 qr109 => ?_
        refine COk.blkQ fun Q115 qn115 qe115 qx115 qr115 => ?_
        refine COk.seqQ fun Q116 qn116 qx116 qr116 => ?_
        refine gor hn ?_
        refine idxK hx12 ?_
        refine qn116 _ _ ?_
        refine COk.seqQ fun Q117 qn117 qx117 qr117 => ?_
        refine gor hn ?_
        refine qn117 _ _ ?_
        refine goc hn ?_
        refine bselM h7 (fun hb14 h7 => ?_) (fun hb14 h7 => ?_)
        · refine COk.seqQ fun Q119 qn119 qx119 qr119 => ?_
          refine gor hn ?_
          refine qn119 _ _ ?_
          refine got hn ?_
          refine qr115 _ _ ?_
          refine qr109 _ _ ?_
          refine qr104 _ _ ?_
          refine qr103 _ _ ?_
          refine qr102 _ _ ?_
          refine qr74 _ _ ?_
          obtain rfl := Option.some.inj h7
          obtain rfl := Option.some.inj h
          exact ⟨[], _, rfl, (by repeat (first | exact trivial | exact rfl | (refine And.intro ?_ ?_))), trivial, rfl, rfl, rfl, rfl, rfl⟩
        · refine gok hn ?_
          refine qn115 _ _ ?_
          refine qn109 _ _ ?_
          refine gor hn ?_
          refine Or.inl (And.intro (inrK hx12 hl4) ?_)
          refine qn104 _ _ ?_
          refine EOk.done ?_
          exact ⟨⟨(rest8, k5 + 1), hd2, h7⟩, [], by show rest8.length < rest8.length + 1; omega, ⟨⟨rfl, rfl, rfl, rfl, rfl, (by repeat (first | exact trivial | exact rfl | (refine And.intro ?_ ?_))), rfl, rfl, trivial⟩, ⟨rfl, rfl, trivial⟩, rfl, rfl⟩⟩
    rintro ⟨⟨⟩, rfl⟩
    refine qn74 _ _ ?_
    refine COk.seqQ fun Q120 qn120 qx120 qr120 => ?_
    refine COk.seqQ fun Q121 qn121 qx121 qr121 => ?_
    obtain ⟨o17, h16, h⟩ := bindM h
    refine COk.joinR (ι := { s : Bool // o17 = s }) (fun s => [(1, .str a1), (2, .int a2), (3, .int a3), (4, .ptr 4 0), (8, .ptr 8 0), (39, .bool s.1)]) (fun s => [(4, .box (eWd a0) 55), (8, .box [.nilsl, .nilsl, .int (0 : Int)] 55)]) (fun Q122 qn122 qx122 qr122 => ?_) (by intro s; rw [hn]; rfl) ?_
    · refine gor hn ?_
      refine bselM h16 (fun hb18 h16 => ?_) (fun hb18 h16 => ?_)
      · refine bselT hb18 ?_
        refine bselT hb18 ?_
        refine bselT hb18 ?_
        refine bselT hb18 ?_
        refine bselT hb18 ?_
        refine qn122 _ _ ?_
        obtain rfl := Option.some.inj h16
        refine EOk.done ?_
        exact ⟨⟨_, rfl⟩, [], trivial, ⟨⟨rfl, rfl, rfl, rfl, rfl, rfl, trivial⟩, ⟨rfl, rfl, trivial⟩, rfl, rfl⟩⟩
      · refine bselF hb18 ?_
        refine bselF hb18 ?_
        refine bselF hb18 ?_
        refine lenM (fun hl19 => ?_)
        refine bselF hb18 ?_
        refine bselF hb18 ?_
        refine qn122 _ _ ?_
        obtain rfl := Option.some.inj h16
        refine EOk.done ?_
        exact ⟨⟨_, rfl⟩, [], trivial, ⟨⟨rfl, rfl, rfl, rfl, rfl, rfl, trivial⟩, ⟨rfl, rfl, trivial⟩, rfl, rfl⟩⟩
    rintro ⟨v15, hv_⟩
    replace hv_ := hv_.symm
    subst hv_
    refine qn121 _ _ ?_
    refine goc hn ?_
    refine bselM h (fun hb20 h => ?_) (fun hb20 h => ?_)
    · refine COk.seqQ fun Q124 qn124 qx124 qr124 => ?_
      refine gor hn ?_
      refine qn124 _ _ ?_
      refine got hn ?_
      refine qr120 _ _ ?_
      obtain rfl := Option.some.inj h
      exact ⟨[], _, rfl, (by repeat (first | exact trivial | exact rfl | (refine And.intro ?_ ?_))), trivial, rfl, rfl, rfl, rfl, rfl⟩
    · refine gok hn ?_
      refine qn120 _ _ ?_
      refine COk.seqQ fun Q125 qn125 qx125 qr125 => ?_
      refine COk.seqQ fun Q126 qn126 qx126 qr126 => ?_
      obtain ⟨o23, h22, h⟩ := bindM h
      refine COk.joinR (ι := { s : Bool // o23 = s }) (fun s => [(1, .str a1), (2, .int a2), (3, .int a3), (4, .ptr 4 0), (8, .ptr 8 0), (62, .bool s.1)]) (fun s => [(4, .box (eWd a0) 55), (8, .box [.nilsl, .nilsl, .int (0 : Int)] 55)]) (fun Q127 qn127 qx127 qr127 => ?_) (by intro s; rw [hn]; rfl) ?_
      · refine gor hn ?_
        refine bselM h22 (fun hb24 h22 => ?_) (fun hb24 h22 => ?_)
        · refine bselT hb24 ?_
          refine bselT hb24 ?_
          refine qn127 _ _ ?_
          obtain rfl := Option.some.inj h22
          refine EOk.done ?_
          exact ⟨⟨_, rfl⟩, [], trivial, ⟨⟨rfl, rfl, rfl, rfl, rfl, rfl, trivial⟩, ⟨rfl, rfl, trivial⟩, rfl, rfl⟩⟩
        · refine bselF hb24 ?_
          refine bselF hb24 ?_
          refine bselM h22 (fun hb25 h22 => ?_) (fun hb25 h22 => ?_)
          · refine bselT hb25 ?_
            refine bselT hb25 ?_
            refine bselT hb25 ?_
            refine bselT hb25 ?_
            refine bselT hb25 ?_
            refine bselT hb25 ?_
            refine qn127 _ _ ?_
            obtain rfl := Option.some.inj h22
            refine EOk.done ?_
            exact ⟨⟨_, rfl⟩, [], trivial, ⟨⟨rfl, rfl, rfl, rfl, rfl, rfl, trivial⟩, ⟨rfl, rfl, trivial⟩, rfl, rfl⟩⟩
          · refine bselF hb25 ?_
            refine bselF hb25 ?_
            refine bselF hb25 ?_
            obtain ⟨r26, hr27, h22⟩ := bindM h22
            show CallOk Try.prog _ _ _ _
            refine CallOk.as (qcref1_Slots_ok N a0 a2 r26 hr27) (by repeat (first | exact trivial | exact rfl | (refine And.intro ?_ ?_))) trivial rfl ?_
            refine bselF hb25 ?_
            refine Or.inr ?_
            refine bselF hb25 ?_
            refine bselF hb25 ?_
            refine bselM h22 (fun hb28 h22 => ?_) (fun hb28 h22 => ?_)
            · refine bselT hb28 ?_
              refine bselT hb28 ?_
              refine bselT hb28 ?_
              refine bselT hb28 ?_
              refine qn127 _ _ ?_
              obtain rfl := Option.some.inj h22
              refine EOk.done ?_
              exact ⟨⟨_, rfl⟩, [], trivial, ⟨⟨rfl, rfl, rfl, rfl, rfl, rfl, trivial⟩, ⟨rfl, rfl, trivial⟩, rfl, rfl⟩⟩
            · refine bselF hb28 ?_
              refine bselF hb28 ?_
              refine bselM h22 (fun hb29 h22 => ?_) (fun hb29 h22 => ?_)
              · refine bselT hb29 ?_
                refine bselF hb28 ?_
                refine bselT hb29 ?_
                refine bselF hb28 ?_
                refine qn127 _ _ ?_
                obtain rfl := Option.some.inj h22
                refine EOk.done ?_
                exact ⟨⟨_, rfl⟩, [], trivial, ⟨⟨rfl, rfl, rfl, rfl, rfl, rfl, trivial⟩, ⟨rfl, rfl, trivial⟩, rfl, rfl⟩⟩
              · refine bselF hb29 ?_
                refine bselF hb28 ?_
                refine bselF hb29 ?_
                refine bselF hb28 ?_
                refine qn127 _ _ ?_
                obtain rfl := Option.some.inj h22
                refine EOk.done ?_
                exact ⟨⟨_, rfl⟩, [], trivial, ⟨⟨rfl, rfl, rfl, rfl, rfl, rfl, trivial⟩, ⟨rfl, rfl, trivial⟩, rfl, rfl⟩⟩
      rintro ⟨v21, hv_⟩
      replace hv_ := hv_.symm
      subst hv_
      refine qn126 _ _ ?_
      refine goc hn ?_
      refine bselM h (fun hb30 h => ?_) (fun hb30 h => ?_)
      · refine COk.seqQ fun Q129 qn129 qx129 qr129 => ?_
        refine gor hn ?_
        refine qn129 _ _ ?_
        refine got hn ?_
        refine qr125 _ _ ?_
        obtain rfl := Option.some.inj h
        exact ⟨[], _, rfl, (by repeat (first | exact trivial | exact rfl | (refine And.intro ?_ ?_))), trivial, rfl, rfl, rfl, rfl, rfl⟩
      · refine gok hn ?_
        refine qn125 _ _ ?_
        refine COk.seqQ fun Q130 qn130 qx130 qr130 => ?_
        refine COk.seqQ fun Q131 qn131 qx131 qr131 => ?_
        refine gor hn ?_
        refine lenM (fun hl31 => ?_)
        refine qn131 _ _ ?_
        refine goc hn ?_
        refine bselM h (fun hb32 h => ?_) (fun hb32 h => ?_)
        · refine COk.seqQ fun Q133 qn133 qx133 qr133 => ?_
          refine gor hn ?_
          refine qn133 _ _ ?_
          refine got hn ?_
          refine qr130 _ _ ?_
          obtain rfl := Option.some.inj h
          exact ⟨[], _, rfl, (by repeat (first | exact trivial | exact rfl | (refine And.intro ?_ ?_))), trivial, rfl, rfl, rfl, rfl, rfl⟩
        · refine gok hn ?_
          refine qn130 _ _ ?_
          refine COk.seqQ fun Q134 qn134 qx134 qr134 => ?_
          refine gor hn ?_
          refine lenM (fun hl33 => ?_)
          refine qn134 _ _ ?_
          refine COk.seqQ fun Q135 qn135 qx135 qr135 => ?_
          refine gor hn ?_
          refine Exists.intro (List.map eCl ([] : List Cl)) (And.intro (by repeat (first | exact trivial | exact rfl | (refine And.intro ?_ ?_))) ?_)
          obtain ⟨hg34, h⟩ := guardM h
          refine appM (l2 := a0.classes) hg34 (leLs_refl _) ?_
          refine Exists.intro (List.map eCl [(⟨a1, a2, a3, []⟩ : Cl)]) (And.intro (by repeat (first | exact trivial | exact rfl | (refine And.intro ?_ ?_))) ?_)
          obtain ⟨hg35, h⟩ := guardM h
          refine appM (l2 := [(⟨a1, a2, a3, []⟩ : Cl)]) hg35 (leLs_refl _) ?_
          refine qn135 _ _ ?_
          refine COk.seqQ fun Q136 qn136 qx136 qr136 => ?_
          refine COk.sub (ts2 := [(4, .ptr 4 0), (8, .ptr 8 0), (13, .int (a0.classes.length : Int))]) (os2 := [(4, .box [.own 81, .sl 2 (List.map eOb a0.heap), .int a0.epoch] 55), (8, .box [.nilsl, .nilsl, .int (0 : Int)] 55), (81, .row 4 (List.map eCl ((([] : List Cl) ++ a0.classes) ++ [(⟨a1, a2, a3, []⟩ : Cl)])) 71)]) [] ⟨⟨rfl, rfl, rfl, trivial⟩, ⟨rfl, rfl, rfl, trivial⟩, rfl, rfl⟩ (by rw [hn]; rfl) ?_
          refine gor hn ?_
          refine qn136 _ _ ?_
          refine COk.fzAll 81 rfl ?_
          refine got hn ?_
          obtain rfl := Option.some.inj h
          exact ⟨[], _, rfl, (by repeat (first | exact trivial | exact rfl | (refine And.intro ?_ ?_))), trivial, rfl, rfl, rfl, rfl, rfl⟩
end Go.Proofs.Ytioalgofaiideaa
