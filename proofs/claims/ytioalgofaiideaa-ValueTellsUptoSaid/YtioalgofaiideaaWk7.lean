/- Walks after the mirrors. Printed by mir.py. -/
import Derived.Test.YtioalgofaiideaaWk6
namespace Go.Proofs.Ytioalgofaiideaa
open Go.RowKit
set_option linter.unusedVariables false
/- qcref1.Find -/
set_option maxRecDepth 100000 in
set_option maxHeartbeats 1000000 in
theorem qcref1_Find_ok (N : Nat) (a0 : Wd) (a1 : Int) (a2 : ByteArray) (r : (Int × Int)) (h : qcref1_Find N a0 a1 a2 = some r) : Spec Try.prog 46 [] [.agg (eWd a0), .int a1, .str a2] (.tup [.int r.1, .int r.2]) [] [] := by
  refine Spec.of tabOk Try.func46 rfl Try.ntmps46 (by kernel_rfl) rfl rfl rfl fun Γ hn => ?_
  unfold qcref1_Find at h
  refine COk.seqQ fun Q301 qn301 qx301 qr301 => ?_
  refine gor hn ?_
  refine qn301 _ _ ?_
  refine COk.seqQ fun Q302 qn302 qx302 qr302 => ?_
  refine COk.seqQ fun Q303 qn303 qx303 qr303 => ?_
  refine gor hn ?_
  obtain ⟨r1, hr2, h⟩ := bindM h
  show CallOk Try.prog _ _ _ _
  refine CallOk.as ((qcref1_Ups_ok N a0 a1 r1 hr2).sw 0 14) (by repeat (first | exact trivial | exact rfl | (refine And.intro ?_ ?_))) trivial rfl ?_
  refine lenM (fun hl3 => ?_)
  refine qn303 _ _ ?_
  obtain ⟨o5, h6, h⟩ := bindM h
  refine COk.joinR (ι := { s : Unit // o5 = Ctl.next s }) (fun s => []) (fun s => []) (fun Q498 qn498 qx498 qr498 => ?_) (by intro s; rw [hn]; rfl) ?_
  · refine COk.blkQ fun Q499 qn499 qe499 qx499 qr499 => ?_
    refine COk.loopQ (ι := { q : ((List Int) × Nat) // q.1 = r1.drop q.2 ∧ qcref1_Find_l1 N a0 a2 r1 q.1 q.2 = some o5 }) (fun q => [(2, .str a2), (3, .ptr 3 0), (14, .own 14), (15, .int (r1.length : Int)), (16, .int (q.1.2 : Int))]) (fun q => [(3, .box (eWd a0) 55), (14, .row 1 (List.map eInt r1) 3)]) (fun q => q.1.1.length) ⟨(r1, 0), rfl, h6⟩ [] ⟨⟨rfl, rfl, rfl, rfl, rfl, trivial⟩, ⟨rfl, rfl, trivial⟩, rfl, rfl⟩ (by intro q; rw [hn]; rfl) ?_
    rintro ⟨⟨rest_, k4⟩, hd8, h6⟩ Q500 qn500 qx500 qr500
    replace hd8 : rest_ = r1.drop k4 := hd8
    rcases rest_ with _ | ⟨x10, rest7⟩
    · have hlt12 := restNil hd8
      replace h6 := (qcref1_Find_l1.eq_1 _ _ _ _ _).symm.trans h6
      refine COk.seqQ fun Q501 qn501 qx501 qr501 => ?_
      refine gor hn ?_
      refine qn501 _ _ ?_
      refine COk.seqQ fun Q502 qn502 qx502 qr502 => ?_
      refine goc hn ?_
      refine bselF hlt12 ?_
      refine goe hn ?_
      refine qx502 _ _ _ ?_
      refine qx500 _ _ _ ?_
      refine qe499 _ _ ?_
      refine qn498 _ _ ?_
      obtain rfl := Option.some.inj h6
      refine EOk.done ?_
      exact ⟨⟨_, rfl⟩, [], trivial, ⟨trivial, trivial, rfl, rfl⟩⟩
    · obtain ⟨hx11, hd2, hlt12⟩ := restCons hd8
      replace h6 := (qcref1_Find_l1.eq_2 _ _ _ _ _ _ _).symm.trans h6
      refine COk.seqQ fun Q503 qn503 qx503 qr503 => ?_
      refine gor hn ?_
      refine qn503 _ _ ?_
      refine COk.seqQ fun Q504 qn504 qx504 qr504 => ?_
      refine goc hn ?_
      refine bselT hlt12 ?_
      refine gok hn ?_
      refine qn504 _ _ ?_
      refine COk.seqQ fun Q505 qn505 qx505 qr505 => ?_
      refine COk.blkQ fun Q553 qn553 qe553 qx553 qr553 => ?_
      refine COk.seqQ fun Q554 qn554 qx554 qr554 => ?_
      refine gor hn ?_
      obtain ⟨x13, hx14, h6⟩ := bindM h6
      refine ownM hx14 ?_
      refine ldM (nthO_some hx14).2 ?_
      refine qn554 _ _ ?_
      refine COk.seqQ fun Q555 qn555 qx555 qr555 => ?_
      refine gor hn ?_
      obtain ⟨x15, hx16, h6⟩ := bindM h6
      refine idxM hx16 ?_
      refine lenM (fun hl17 => ?_)
      refine qn555 _ _ ?_
      obtain ⟨o19, h20, h6⟩ := bindM h6
      refine COk.joinR (ι := { s : Unit // o19 = Ctl.next s }) (fun s => [(2, .str a2), (3, .ptr 3 0), (14, .own 14), (15, .int (r1.length : Int)), (16, .int (k4 : Int))]) (fun s => [(3, .box (eWd a0) 55), (14, .row 1 (List.map eInt r1) 3)]) (fun Q582 qn582 qx582 qr582 => ?_) (by intro s; rw [hn]; rfl) ?_
      · refine COk.blkQ fun Q583 qn583 qe583 qx583 qr583 => ?_
        refine COk.loopQ (ι := { q : ((List Me) × Nat) // q.1 = x15.methods.drop q.2 ∧ qcref1_Find_l2 N a2 x13 q.1 q.2 = some o19 }) (fun q => [(2, .str a2), (3, .ptr 3 0), (9, .int x13), (14, .own 14), (15, .int (r1.length : Int)), (16, .int (k4 : Int)), (25, .sl 5 (List.map eMe x15.methods)), (26, .int (x15.methods.length : Int)), (27, .int (q.1.2 : Int))]) (fun q => [(3, .box (eWd a0) 55), (14, .row 1 (List.map eInt r1) 3)]) (fun q => q.1.1.length) ⟨(x15.methods, 0), rfl, h20⟩ [] ⟨⟨rfl, rfl, rfl, rfl, rfl, rfl, (by repeat (first | exact trivial | exact rfl | (refine And.intro ?_ ?_))), rfl, rfl, trivial⟩, ⟨rfl, rfl, trivial⟩, rfl, rfl⟩ (by intro q; rw [hn]; rfl) ?_
        rintro ⟨⟨rest_, k18⟩, hd22, h20⟩ Q584 qn584 qx584 qr584
        replace hd22 : rest_ = x15.methods.drop k18 := hd22
        rcases rest_ with _ | ⟨x24, rest21⟩
        · have hlt26 := restNil hd22
          replace h20 := (qcref1_Find_l2.eq_1 _ _ _ _).symm.trans h20
          refine COk.seqQ fun Q585 qn585 qx585 qr585 => ?_
          refine gor hn ?_
          refine qn585 _ _ ?_
          refine COk.seqQ fun Q586 qn586 qx586 qr586 => ?_
          refine goc hn ?_
          refine bselF hlt26 ?_
          refine goe hn ?_
          refine qx586 _ _ _ ?_
          refine qx584 _ _ _ ?_
          refine qe583 _ _ ?_
          refine qn582 _ _ ?_
          obtain rfl := Option.some.inj h20
          refine EOk.done ?_
          exact ⟨⟨_, rfl⟩, [], trivial, ⟨⟨rfl, rfl, rfl, rfl, rfl, trivial⟩, ⟨rfl, rfl, trivial⟩, rfl, rfl⟩⟩
        · obtain ⟨hx25, hd2, hlt26⟩ := restCons hd22
          replace h20 := (qcref1_Find_l2.eq_2 _ _ _ _ _ _).symm.trans h20
          refine COk.seqQ fun Q587 qn587 qx587 qr587 => ?_
          refine gor hn ?_
          refine qn587 _ _ ?_
          refine COk.seqQ fun Q588 qn588 qx588 qr588 => ?_
          refine goc hn ?_
          refine bselT hlt26 ?_
          refine gok hn ?_
          refine qn588 _ _ ?_
          refine COk.seqQ fun Q589 qn589 qx589 qr589 => ?_
          refine COk.blkQ fun Q595 qn595 qe595 qx595 qr595 => ?_
          refine COk.seqQ fun Q596 qn596 qx596 qr596 => ?_
          refine gor hn ?_
          refine idxK hx25 ?_
          refine qn596 _ _ ?_
          refine COk.seqQ fun Q597 qn597 qx597 qr597 => ?_
          refine gor hn ?_
          refine qn597 _ _ ?_
          refine goc hn ?_
          refine bselM h20 (fun hb27 h20 => ?_) (fun hb27 h20 => ?_)
          · refine COk.seqQ fun Q599 qn599 qx599 qr599 => ?_
            refine gor hn ?_
            refine qn599 _ _ ?_
            refine got hn ?_
            refine qr595 _ _ ?_
            refine qr589 _ _ ?_
            refine qr584 _ _ ?_
            refine qr583 _ _ ?_
            refine qr582 _ _ ?_
            refine qr553 _ _ ?_
            refine qr505 _ _ ?_
            refine qr500 _ _ ?_
            refine qr499 _ _ ?_
            refine qr498 _ _ ?_
            refine qr302 _ _ ?_
            obtain rfl := Option.some.inj h20
            obtain rfl := Option.some.inj h6
            obtain rfl := Option.some.inj h
            exact ⟨[], _, rfl, (by repeat (first | exact trivial | exact rfl | (refine And.intro ?_ ?_))), trivial, rfl, rfl, rfl, rfl, rfl⟩
          · refine gok hn ?_
            refine qn595 _ _ ?_
            refine qn589 _ _ ?_
            refine gor hn ?_
            refine Or.inl (And.intro (inrK hx25 hl17) ?_)
            refine qn584 _ _ ?_
            refine EOk.done ?_
            exact ⟨⟨(rest21, k18 + 1), hd2, h20⟩, [], by show rest21.length < rest21.length + 1; omega, ⟨⟨rfl, rfl, rfl, rfl, rfl, rfl, (by repeat (first | exact trivial | exact rfl | (refine And.intro ?_ ?_))), rfl, rfl, trivial⟩, ⟨rfl, rfl, trivial⟩, rfl, rfl⟩⟩
      rintro ⟨⟨⟩, rfl⟩
      refine qn553 _ _ ?_
      refine qn505 _ _ ?_
      refine gor hn ?_
      refine Or.inl (And.intro (inrK hx11 hl3) ?_)
      refine qn500 _ _ ?_
      refine EOk.done ?_
      exact ⟨⟨(rest7, k4 + 1), hd2, h6⟩, [], by show rest7.length < rest7.length + 1; omega, ⟨⟨rfl, rfl, rfl, rfl, rfl, trivial⟩, ⟨rfl, rfl, trivial⟩, rfl, rfl⟩⟩
  rintro ⟨⟨⟩, rfl⟩
  refine qn302 _ _ ?_
  refine COk.seqQ fun Q600 qn600 qx600 qr600 => ?_
  refine gor hn ?_
  refine qn600 _ _ ?_
  refine got hn ?_
  obtain rfl := Option.some.inj h
  exact ⟨[], _, rfl, (by repeat (first | exact trivial | exact rfl | (refine And.intro ?_ ?_))), trivial, rfl, rfl, rfl, rfl, rfl⟩

/- qcref5.Site -/
set_option maxRecDepth 100000 in
set_option maxHeartbeats 1000000 in
theorem qcref5_Site_ok (N : Nat) (a0 : Wd) (a1 : (List Tl)) (a2 : St) (a3 : ByteArray) (a4 : Int) (r : Int) (h : qcref5_Site N a0 a1 a2 a3 a4 = some r) : Spec Try.prog 44 [] [.agg (eWd a0), .sl 4 (List.map eTl a1), .agg (eSt a2), .str a3, .int a4] (.int r) [] [] := by
  refine Spec.of tabOk Try.func44 rfl Try.ntmps44 (by kernel_rfl) rfl rfl rfl fun Γ hn => ?_
  unfold qcref5_Site at h
  refine COk.seqQ fun Q20 qn20 qx20 qr20 => ?_
  refine gor hn ?_
  refine qn20 _ _ ?_
  refine COk.seqQ fun Q21 qn21 qx21 qr21 => ?_
  refine gor hn ?_
  obtain ⟨r1, hr2, h⟩ := bindM h
  show CallOk Try.prog _ _ _ _
  refine CallOk.as (qcref1_Most_ok N a1 a2 r1 hr2) (by repeat (first | exact trivial | exact rfl | (refine And.intro ?_ ?_))) trivial rfl ?_
  refine qn21 _ _ ?_
  refine COk.seqQ fun Q22 qn22 qx22 qr22 => ?_
  refine COk.seqQ fun Q23 qn23 qx23 qr23 => ?_
  obtain ⟨o5, h4, h⟩ := bindM h
  refine COk.joinR (ι := { s : Bool // o5 = s }) (fun s => [(3, .str a3), (4, .int a4), (5, .ptr 5 0), (11, .int r1.1), (36, .bool s.1)]) (fun s => [(5, .box (eWd a0) 55)]) (fun Q24 qn24 qx24 qr24 => ?_) (by intro s; rw [hn]; rfl) ?_
  · refine gor hn ?_
    refine bselM h4 (fun hb6 h4 => ?_) (fun hb6 h4 => ?_)
    · refine bselT hb6 ?_
      refine bselT hb6 ?_
      refine bselT hb6 ?_
      refine bselT hb6 ?_
      refine bselT hb6 ?_
      refine qn24 _ _ ?_
      obtain rfl := Option.some.inj h4
      refine EOk.done ?_
      exact ⟨⟨_, rfl⟩, [], trivial, ⟨⟨rfl, rfl, rfl, rfl, rfl, trivial⟩, ⟨rfl, trivial⟩, rfl, rfl⟩⟩
    · refine bselF hb6 ?_
      refine bselF hb6 ?_
      refine Or.inr ?_
      refine bselF hb6 ?_
      refine bselF hb6 ?_
      refine bselF hb6 ?_
      refine bselM h4 (fun hb7 h4 => ?_) (fun hb7 h4 => ?_)
      · refine bselT hb7 ?_
        refine bselT hb7 ?_
        refine qn24 _ _ ?_
        obtain rfl := Option.some.inj h4
        refine EOk.done ?_
        exact ⟨⟨_, rfl⟩, [], trivial, ⟨⟨rfl, rfl, rfl, rfl, rfl, trivial⟩, ⟨rfl, trivial⟩, rfl, rfl⟩⟩
      · refine bselF hb7 ?_
        refine bselF hb7 ?_
        refine qn24 _ _ ?_
        obtain rfl := Option.some.inj h4
        refine EOk.done ?_
        exact ⟨⟨_, rfl⟩, [], trivial, ⟨⟨rfl, rfl, rfl, rfl, rfl, trivial⟩, ⟨rfl, trivial⟩, rfl, rfl⟩⟩
  rintro ⟨v3, hv_⟩
  replace hv_ := hv_.symm
  subst hv_
  refine qn23 _ _ ?_
  refine goc hn ?_
  refine bselM h (fun hb8 h => ?_) (fun hb8 h => ?_)
  · refine COk.seqQ fun Q26 qn26 qx26 qr26 => ?_
    refine gor hn ?_
    refine qn26 _ _ ?_
    refine got hn ?_
    refine qr22 _ _ ?_
    obtain rfl := Option.some.inj h
    exact ⟨[], _, rfl, (by repeat (first | exact trivial | exact rfl | (refine And.intro ?_ ?_))), trivial, rfl, rfl, rfl, rfl, rfl⟩
  · refine gok hn ?_
    refine qn22 _ _ ?_
    refine COk.seqQ fun Q27 qn27 qx27 qr27 => ?_
    refine gor hn ?_
    obtain ⟨r9, hr10, h⟩ := bindM h
    show CallOk Try.prog _ _ _ _
    refine CallOk.as (qcref1_Find_ok N a0 r1.1 a3 r9 hr10) (by repeat (first | exact trivial | exact rfl | (refine And.intro ?_ ?_))) trivial rfl ?_
    refine qn27 _ _ ?_
    refine COk.seqQ fun Q28 qn28 qx28 qr28 => ?_
    refine COk.seqQ fun Q29 qn29 qx29 qr29 => ?_
    refine gor hn ?_
    refine qn29 _ _ ?_
    refine goc hn ?_
    refine bselM h (fun hb11 h => ?_) (fun hb11 h => ?_)
    · refine COk.seqQ fun Q31 qn31 qx31 qr31 => ?_
      refine gor hn ?_
      refine qn31 _ _ ?_
      refine got hn ?_
      refine qr28 _ _ ?_
      obtain rfl := Option.some.inj h
      exact ⟨[], _, rfl, (by repeat (first | exact trivial | exact rfl | (refine And.intro ?_ ?_))), trivial, rfl, rfl, rfl, rfl, rfl⟩
    · refine gok hn ?_
      refine qn28 _ _ ?_
      refine COk.seqQ fun Q32 qn32 qx32 qr32 => ?_
      refine COk.seqQ fun Q33 qn33 qx33 qr33 => ?_
      refine gor hn ?_
      obtain ⟨x12, hx13, h⟩ := bindM h
      refine idxM hx13 ?_
      obtain ⟨x14, hx15, h⟩ := bindM h
      refine idxM hx15 ?_
      refine qn33 _ _ ?_
      refine COk.seqQ fun Q34 qn34 qx34 qr34 => ?_
      obtain ⟨o18, h17, h⟩ := bindM h
      refine COk.joinR (ι := { s : Bool // o18 = s }) (fun s => [(11, .int r1.1), (63, .bool s.1)]) (fun s => []) (fun Q35 qn35 qx35 qr35 => ?_) (by intro s; rw [hn]; rfl) ?_
      · refine gor hn ?_
        obtain ⟨r19, hr20, h17⟩ := bindM h17
        show CallOk Try.prog _ _ _ _
        refine CallOk.as (qcref5_Leaf_ok N x14 r19 hr20) (by repeat (first | exact trivial | exact rfl | (refine And.intro ?_ ?_))) trivial rfl ?_
        refine bselM h17 (fun hb21 h17 => ?_) (fun hb21 h17 => ?_)
        · refine bselT hb21 ?_
          refine bselT hb21 ?_
          refine bselT hb21 ?_
          refine bselT hb21 ?_
          refine qn35 _ _ ?_
          obtain rfl := Option.some.inj h17
          refine EOk.done ?_
          exact ⟨⟨_, rfl⟩, [], trivial, ⟨⟨rfl, rfl, trivial⟩, trivial, rfl, rfl⟩⟩
        · refine bselF hb21 ?_
          refine bselF hb21 ?_
          refine bselF hb21 ?_
          refine bselF hb21 ?_
          refine qn35 _ _ ?_
          obtain rfl := Option.some.inj h17
          refine EOk.done ?_
          exact ⟨⟨_, rfl⟩, [], trivial, ⟨⟨rfl, rfl, trivial⟩, trivial, rfl, rfl⟩⟩
      rintro ⟨v16, hv_⟩
      replace hv_ := hv_.symm
      subst hv_
      refine qn34 _ _ ?_
      refine goc hn ?_
      refine bselM h (fun hb22 h => ?_) (fun hb22 h => ?_)
      · refine COk.seqQ fun Q37 qn37 qx37 qr37 => ?_
        refine gor hn ?_
        refine qn37 _ _ ?_
        refine got hn ?_
        refine qr32 _ _ ?_
        obtain rfl := Option.some.inj h
        exact ⟨[], _, rfl, (by repeat (first | exact trivial | exact rfl | (refine And.intro ?_ ?_))), trivial, rfl, rfl, rfl, rfl, rfl⟩
      · refine gok hn ?_
        refine qn32 _ _ ?_
        refine COk.seqQ fun Q38 qn38 qx38 qr38 => ?_
        refine gor hn ?_
        refine qn38 _ _ ?_
        refine got hn ?_
        obtain rfl := Option.some.inj h
        exact ⟨[], _, rfl, (by repeat (first | exact trivial | exact rfl | (refine And.intro ?_ ?_))), trivial, rfl, rfl, rfl, rfl, rfl⟩

/- qcref5.Sites -/
set_option maxRecDepth 100000 in
set_option maxHeartbeats 1000000 in
theorem qcref5_Sites_ok (N : Nat) (a0 : Wd) (a1 : (List Tl)) (a2 : Int) (a3 : Int) (r : (List Int)) (h : qcref5_Sites N a0 a1 a2 a3 = some r) : Spec Try.prog 42 [] [.agg (eWd a0), .sl 4 (List.map eTl a1), .int a2, .int a3] (.own 0) [(0, .row 1 (List.map eInt r) 3)] [0] := by
  refine Spec.of tabOk Try.func42 rfl Try.ntmps42 (by kernel_rfl) rfl rfl rfl fun Γ hn => ?_
  unfold qcref5_Sites at h
  refine COk.seqQ fun Q92 qn92 qx92 qr92 => ?_
  refine gor hn ?_
  refine qn92 _ _ ?_
  refine COk.seqQ fun Q93 qn93 qx93 qr93 => ?_
  refine gor hn ?_
  refine qn93 _ _ ?_
  refine COk.seqQ fun Q94 qn94 qx94 qr94 => ?_
  refine COk.seqQ fun Q95 qn95 qx95 qr95 => ?_
  obtain ⟨o3, h2, h⟩ := bindM h
  refine COk.joinR (ι := { s : Bool // o3 = s }) (fun s => [(1, .sl 4 (List.map eTl a1)), (2, .int a2), (3, .int a3), (4, .ptr 4 0), (9, .nilsl), (37, .bool s.1)]) (fun s => [(4, .box (eWd a0) 55)]) (fun Q96 qn96 qx96 qr96 => ?_) (by intro s; rw [hn]; rfl) ?_
  · refine gor hn ?_
    refine bselM h2 (fun hb4 h2 => ?_) (fun hb4 h2 => ?_)
    · refine bselT hb4 ?_
      refine bselT hb4 ?_
      refine bselT hb4 ?_
      refine bselT hb4 ?_
      refine bselT hb4 ?_
      refine qn96 _ _ ?_
      obtain rfl := Option.some.inj h2
      refine EOk.done ?_
      exact ⟨⟨_, rfl⟩, [], trivial, ⟨⟨(by repeat (first | exact trivial | exact rfl | (refine And.intro ?_ ?_))), rfl, rfl, rfl, (by repeat (first | exact trivial | exact rfl | (refine And.intro ?_ ?_))), rfl, trivial⟩, ⟨rfl, trivial⟩, rfl, rfl⟩⟩
    · refine bselF hb4 ?_
      refine bselF hb4 ?_
      refine bselF hb4 ?_
      refine lenM (fun hl5 => ?_)
      refine bselF hb4 ?_
      refine bselF hb4 ?_
      refine bselM h2 (fun hb6 h2 => ?_) (fun hb6 h2 => ?_)
      · refine bselT hb6 ?_
        refine bselT hb6 ?_
        refine qn96 _ _ ?_
        obtain rfl := Option.some.inj h2
        refine EOk.done ?_
        exact ⟨⟨_, rfl⟩, [], trivial, ⟨⟨(by repeat (first | exact trivial | exact rfl | (refine And.intro ?_ ?_))), rfl, rfl, rfl, (by repeat (first | exact trivial | exact rfl | (refine And.intro ?_ ?_))), rfl, trivial⟩, ⟨rfl, trivial⟩, rfl, rfl⟩⟩
      · refine bselF hb6 ?_
        refine bselF hb6 ?_
        refine bselM h2 (fun hb7 h2 => ?_) (fun hb7 h2 => ?_)
        · refine bselT hb7 ?_
          refine bselT hb7 ?_
          refine bselT hb7 ?_
          refine bselT hb7 ?_
          refine bselT hb7 ?_
          refine bselT hb7 ?_
          refine bselT hb7 ?_
          refine bselT hb7 ?_
          refine bselT hb7 ?_
          refine qn96 _ _ ?_
          obtain rfl := Option.some.inj h2
          refine EOk.done ?_
          exact ⟨⟨_, rfl⟩, [], trivial, ⟨⟨(by repeat (first | exact trivial | exact rfl | (refine And.intro ?_ ?_))), rfl, rfl, rfl, (by repeat (first | exact trivial | exact rfl | (refine And.intro ?_ ?_))), rfl, trivial⟩, ⟨rfl, trivial⟩, rfl, rfl⟩⟩
        · refine bselF hb7 ?_
          refine bselF hb7 ?_
          refine bselF hb7 ?_
          refine bselF hb7 ?_
          obtain ⟨x8, hx9, h2⟩ := bindM h2
          refine idxM hx9 ?_
          refine bselF hb7 ?_
          refine bselF hb7 ?_
          refine bselF hb7 ?_
          refine lenM (fun hl10 => ?_)
          refine bselF hb7 ?_
          refine bselF hb7 ?_
          refine qn96 _ _ ?_
          obtain rfl := Option.some.inj h2
          refine EOk.done ?_
          exact ⟨⟨_, rfl⟩, [], trivial, ⟨⟨(by repeat (first | exact trivial | exact rfl | (refine And.intro ?_ ?_))), rfl, rfl, rfl, (by repeat (first | exact trivial | exact rfl | (refine And.intro ?_ ?_))), rfl, trivial⟩, ⟨rfl, trivial⟩, rfl, rfl⟩⟩
  rintro ⟨v1, hv_⟩
  replace hv_ := hv_.symm
  subst hv_
  refine qn95 _ _ ?_
  refine goc hn ?_
  refine bselM h (fun hb11 h => ?_) (fun hb11 h => ?_)
  · refine COk.seqQ fun Q98 qn98 qx98 qr98 => ?_
    refine gor hn ?_
    refine qn98 _ _ ?_
    refine COk.nilrow 8 208 1 3 rfl rfl rfl ?_
    refine got hn ?_
    refine qr94 _ _ ?_
    obtain rfl := Option.some.inj h
    exact ⟨[(0, 208)], _, rfl, (by repeat (first | exact trivial | exact rfl | (refine And.intro ?_ ?_))), ⟨rfl, trivial⟩, rfl, rfl, rfl, rfl, rfl⟩
  · refine gok hn ?_
    refine qn94 _ _ ?_
    refine COk.seqQ fun Q99 qn99 qx99 qr99 => ?_
    refine gor hn ?_
    obtain ⟨x12, hx13, h⟩ := bindM h
    refine idxM hx13 ?_
    obtain ⟨x14, hx15, h⟩ := bindM h
    refine idxM hx15 ?_
    refine qn99 _ _ ?_
    refine COk.seqQ fun Q100 qn100 qx100 qr100 => ?_
    refine COk.seqQ fun Q101 qn101 qx101 qr101 => ?_
    refine gor hn ?_
    refine lenM (fun hl16 => ?_)
    refine qn101 _ _ ?_
    refine COk.nilrow 9 209 1 3 rfl rfl rfl ?_
    obtain ⟨o21, h22, h⟩ := bindM h
    refine COk.joinR (ι := { s : (List Int) // o21 = s }) (fun s => [(9, .own 209)]) (fun s => [(209, .row 1 (List.map eInt s.1) 3)]) (fun Q162 qn162 qx162 qr162 => ?_) (by intro s; rw [hn]; rfl) ?_
    · refine COk.blkQ fun Q163 qn163 qe163 qx163 qr163 => ?_
      refine COk.loopQ (ι := { q : ((List Ins) × Nat × (List Int)) // q.1 = x14.code.drop q.2.1 ∧ qcref5_Sites_l1 N a0 a1 a2 x14 q.1 q.2.1 q.2.2 = some o21 }) (fun q => [(1, .sl 4 (List.map eTl a1)), (2, .int a2), (4, .ptr 4 0), (9, .own 209), (10, .ptr 10 0), (49, .sl 5 (List.map eIns x14.code)), (50, .int (x14.code.length : Int)), (51, .int (q.1.2.1 : Int))]) (fun q => [(4, .box (eWd a0) 55), (10, .box (eMe x14) 74), (209, .row 1 (List.map eInt q.1.2.2) 3)]) (fun q => q.1.1.length) ⟨(x14.code, 0, ([] : List Int)), rfl, h22⟩ [] ⟨⟨(by repeat (first | exact trivial | exact rfl | (refine And.intro ?_ ?_))), rfl, rfl, rfl, rfl, (by repeat (first | exact trivial | exact rfl | (refine And.intro ?_ ?_))), rfl, rfl, trivial⟩, ⟨rfl, rfl, rfl, trivial⟩, rfl, rfl⟩ (by intro q; rw [hn]; rfl) ?_
      rintro ⟨⟨rest_, k17, v18⟩, hd24, h22⟩ Q164 qn164 qx164 qr164
      replace hd24 : rest_ = x14.code.drop k17 := hd24
      rcases rest_ with _ | ⟨x26, rest23⟩
      · have hlt28 := restNil hd24
        replace h22 := (qcref5_Sites_l1.eq_1 _ _ _ _ _ _ _).symm.trans h22
        refine COk.seqQ fun Q165 qn165 qx165 qr165 => ?_
        refine gor hn ?_
        refine qn165 _ _ ?_
        refine COk.seqQ fun Q166 qn166 qx166 qr166 => ?_
        refine goc hn ?_
        refine bselF hlt28 ?_
        refine goe hn ?_
        refine qx166 _ _ _ ?_
        refine qx164 _ _ _ ?_
        refine qe163 _ _ ?_
        refine qn162 _ _ ?_
        obtain rfl := Option.some.inj h22
        refine EOk.done ?_
        exact ⟨⟨_, rfl⟩, [], trivial, ⟨⟨rfl, trivial⟩, ⟨rfl, trivial⟩, rfl, rfl⟩⟩
      · obtain ⟨hx27, hd2, hlt28⟩ := restCons hd24
        replace h22 := (qcref5_Sites_l1.eq_2 _ _ _ _ _ _ _ _ _).symm.trans h22
        refine COk.seqQ fun Q167 qn167 qx167 qr167 => ?_
        refine gor hn ?_
        refine qn167 _ _ ?_
        refine COk.seqQ fun Q168 qn168 qx168 qr168 => ?_
        refine goc hn ?_
        refine bselT hlt28 ?_
        refine gok hn ?_
        refine qn168 _ _ ?_
        refine COk.seqQ fun Q169 qn169 qx169 qr169 => ?_
        refine COk.blkQ fun Q176 qn176 qe176 qx176 qr176 => ?_
        refine COk.seqQ fun Q177 qn177 qx177 qr177 => ?_
        refine gor hn ?_
        refine idxK hx27 ?_
        refine qn177 _ _ ?_
        refine COk.seqQ fun Q178 qn178 qx178 qr178 => ?_
        refine gor hn ?_
        refine qn178 _ _ ?_
        refine COk.seqQ fun Q179 qn179 qx179 qr179 => ?_
        refine COk.seqQ fun Q180 qn180 qx180 qr180 => ?_
        refine gor hn ?_
        refine qn180 _ _ ?_
        obtain ⟨o31, h30, h22⟩ := bindM h22
        refine COk.joinR (ι := { s : Int // o31 = s }) (fun s => [(1, .sl 4 (List.map eTl a1)), (2, .int a2), (4, .ptr 4 0), (9, .own 209), (10, .ptr 10 0), (13, .int s.1), (49, .sl 5 (List.map eIns x14.code)), (50, .int (x14.code.length : Int)), (51, .int (k17 : Int))]) (fun s => [(4, .box (eWd a0) 55), (10, .box (eMe x14) 74), (209, .row 1 (List.map eInt v18) 3)]) (fun Q181 qn181 qx181 qr181 => ?_) (by intro s; rw [hn]; rfl) ?_
        · refine goc hn ?_
          refine bselM h30 (fun hb32 h30 => ?_) (fun hb32 h30 => ?_)
          · refine gor hn ?_
            obtain ⟨r33, hr34, h30⟩ := bindM h30
            show CallOk Try.prog _ _ _ _
            refine CallOk.as (qcref5_Site_ok N a0 a1 (⟨a2, x14.name, (k17 : Int)⟩ : St) x26.name x26.a r33 hr34) (by repeat (first | exact trivial | exact rfl | (refine And.intro ?_ ?_))) trivial rfl ?_
            refine qn181 _ _ ?_
            obtain rfl := Option.some.inj h30
            refine EOk.done ?_
            exact ⟨⟨_, rfl⟩, [], trivial, ⟨⟨(by repeat (first | exact trivial | exact rfl | (refine And.intro ?_ ?_))), rfl, rfl, rfl, rfl, rfl, (by repeat (first | exact trivial | exact rfl | (refine And.intro ?_ ?_))), rfl, rfl, trivial⟩, ⟨rfl, rfl, rfl, trivial⟩, rfl, rfl⟩⟩
          · refine gok hn ?_
            refine qn181 _ _ ?_
            obtain rfl := Option.some.inj h30
            refine EOk.done ?_
            exact ⟨⟨_, rfl⟩, [], trivial, ⟨⟨(by repeat (first | exact trivial | exact rfl | (refine And.intro ?_ ?_))), rfl, rfl, rfl, rfl, rfl, (by repeat (first | exact trivial | exact rfl | (refine And.intro ?_ ?_))), rfl, rfl, trivial⟩, ⟨rfl, rfl, rfl, trivial⟩, rfl, rfl⟩⟩
        rintro ⟨v29, hv_⟩
        replace hv_ := hv_.symm
        subst hv_
        refine qn179 _ _ ?_
        refine gor hn ?_
        refine Exists.intro (List.map eInt [v29]) (And.intro (by repeat (first | exact trivial | exact rfl | (refine And.intro ?_ ?_))) ?_)
        obtain ⟨hg35, h22⟩ := guardM h22
        refine appM (l2 := [v29]) hg35 (leLs_refl _) ?_
        refine qn176 _ _ ?_
        refine qn169 _ _ ?_
        refine gor hn ?_
        refine Or.inl (And.intro (inrK hx27 hl16) ?_)
        refine qn164 _ _ ?_
        refine EOk.done ?_
        exact ⟨⟨(rest23, k17 + 1, (v18 ++ [v29])), hd2, h22⟩, [(209, 74)], by show rest23.length < rest23.length + 1; omega, ⟨⟨(by repeat (first | exact trivial | exact rfl | (refine And.intro ?_ ?_))), rfl, rfl, rfl, rfl, (by repeat (first | exact trivial | exact rfl | (refine And.intro ?_ ?_))), rfl, rfl, trivial⟩, ⟨rfl, rfl, rfl, trivial⟩, rfl, rfl⟩⟩
    rintro ⟨v20, hv_⟩
    replace hv_ := hv_.symm
    subst hv_
    refine qn100 _ _ ?_
    refine COk.seqQ fun Q182 qn182 qx182 qr182 => ?_
    refine gor hn ?_
    refine qn182 _ _ ?_
    refine got hn ?_
    obtain rfl := Option.some.inj h
    exact ⟨[(0, 209)], _, rfl, (by repeat (first | exact trivial | exact rfl | (refine And.intro ?_ ?_))), ⟨rfl, trivial⟩, rfl, rfl, rfl, rfl, rfl⟩

/- qcref1.Name -/
set_option maxRecDepth 100000 in
set_option maxHeartbeats 1000000 in
theorem qcref1_Name_ok (N : Nat) (a0 : ByteArray) (r : Bool) (h : qcref1_Name N a0 = some r) : Spec Try.prog 64 [] [.str a0] (.bool r) [] [] := by
  refine Spec.of tabOk Try.func64 rfl Try.ntmps64 (by kernel_rfl) rfl rfl rfl fun Γ hn => ?_
  unfold qcref1_Name at h
  refine COk.seqQ fun Q56 qn56 qx56 qr56 => ?_
  refine gor hn ?_
  refine qn56 _ _ ?_
  refine COk.seqQ fun Q57 qn57 qx57 qr57 => ?_
  refine COk.seqQ fun Q58 qn58 qx58 qr58 => ?_
  refine gor hn ?_
  intro hl1
  refine qn58 _ _ ?_
  refine COk.rng 5 rfl (fun hrn => ?_)
  obtain ⟨o3, h4, h⟩ := bindM h
  refine COk.joinR (ι := { s : Unit // o3 = Ctl.next s }) (fun s => [(0, .str a0)]) (fun s => []) (fun Q89 qn89 qx89 qr89 => ?_) (by intro s; rw [hn]; rfl) ?_
  · refine COk.blkQ fun Q90 qn90 qe90 qx90 qr90 => ?_
    refine COk.loopQ (ι := { q : (Nat × Nat) // q.1 = ((a0.size : Int) - (q.2 : Int)).toNat ∧ qcref1_Name_l1 N a0 q.1 q.2 = some o3 }) (fun q => [(0, .str a0), (5, .int (a0.size : Int)), (6, .int (q.1.2 : Int))]) (fun q => []) (fun q => q.1.1) ⟨(((a0.size : Int) - ((0 : Nat) : Int)).toNat, 0), rfl, h4⟩ [] ⟨⟨rfl, rfl, rfl, trivial⟩, trivial, rfl, rfl⟩ (by intro q; rw [hn]; rfl) ?_
    rintro ⟨⟨n_, k2⟩, hd6, h4⟩ Q91 qn91 qx91 qr91
    replace hd6 : n_ = ((a0.size : Int) - (k2 : Int)).toNat := hd6
    rcases n_ with _ | n7
    · have hlt10 := upNil hd6
      replace h4 := (qcref1_Name_l1.eq_1 _ _ _).symm.trans h4
      refine COk.seqQ fun Q92 qn92 qx92 qr92 => ?_
      refine gor hn ?_
      refine qn92 _ _ ?_
      refine COk.seqQ fun Q93 qn93 qx93 qr93 => ?_
      refine goc hn ?_
      refine bselF hlt10 ?_
      refine goe hn ?_
      refine qx93 _ _ _ ?_
      refine qx91 _ _ _ ?_
      refine qe90 _ _ ?_
      refine qn89 _ _ ?_
      obtain rfl := Option.some.inj h4
      refine EOk.done ?_
      exact ⟨⟨_, rfl⟩, [], trivial, ⟨⟨rfl, trivial⟩, trivial, rfl, rfl⟩⟩
    · obtain ⟨hd2, hlt10⟩ := upCons hd6
      replace h4 := (qcref1_Name_l1.eq_2 _ _ _ _).symm.trans h4
      refine COk.seqQ fun Q94 qn94 qx94 qr94 => ?_
      refine gor hn ?_
      refine qn94 _ _ ?_
      refine COk.seqQ fun Q95 qn95 qx95 qr95 => ?_
      refine goc hn ?_
      refine bselT hlt10 ?_
      refine gok hn ?_
      refine qn95 _ _ ?_
      refine COk.seqQ fun Q96 qn96 qx96 qr96 => ?_
      refine COk.blkQ fun Q103 qn103 qe103 qx103 qr103 => ?_
      refine COk.seqQ fun Q104 qn104 qx104 qr104 => ?_
      refine gor hn ?_
      refine qn104 _ _ ?_
      refine COk.seqQ fun Q105 qn105 qx105 qr105 => ?_
      obtain ⟨o13, h12, h4⟩ := bindM h4
      refine COk.joinR (ι := { s : Bool // o13 = s }) (fun s => [(0, .str a0), (5, .int (a0.size : Int)), (6, .int (k2 : Int)), (18, .bool s.1)]) (fun s => []) (fun Q106 qn106 qx106 qr106 => ?_) (by intro s; rw [hn]; rfl) ?_
      · refine gor hn ?_
        obtain ⟨u14, hx15, h12⟩ := bindM h12
        refine byM hx15 ?_
        refine And.intro rfl ?_
        refine bselM h12 (fun hb16 h12 => ?_) (fun hb16 h12 => ?_)
        · refine bselT hb16 ?_
          refine bselT hb16 ?_
          refine bselT hb16 ?_
          refine bselT hb16 ?_
          refine qn106 _ _ ?_
          obtain rfl := Option.some.inj h12
          refine EOk.done ?_
          exact ⟨⟨_, rfl⟩, [], trivial, ⟨⟨rfl, rfl, rfl, rfl, trivial⟩, trivial, rfl, rfl⟩⟩
        · refine bselF hb16 ?_
          refine bselF hb16 ?_
          obtain ⟨u17, hx18, h12⟩ := bindM h12
          refine byM hx18 ?_
          refine bselF hb16 ?_
          refine And.intro rfl ?_
          refine bselF hb16 ?_
          refine qn106 _ _ ?_
          obtain rfl := Option.some.inj h12
          refine EOk.done ?_
          exact ⟨⟨_, rfl⟩, [], trivial, ⟨⟨rfl, rfl, rfl, rfl, trivial⟩, trivial, rfl, rfl⟩⟩
      rintro ⟨v11, hv_⟩
      replace hv_ := hv_.symm
      subst hv_
      refine qn105 _ _ ?_
      refine goc hn ?_
      refine bselM h4 (fun hb19 h4 => ?_) (fun hb19 h4 => ?_)
      · refine COk.seqQ fun Q108 qn108 qx108 qr108 => ?_
        refine gor hn ?_
        refine qn108 _ _ ?_
        refine got hn ?_
        refine qr103 _ _ ?_
        refine qr96 _ _ ?_
        refine qr91 _ _ ?_
        refine qr90 _ _ ?_
        refine qr89 _ _ ?_
        refine qr57 _ _ ?_
        obtain rfl := Option.some.inj h4
        obtain rfl := Option.some.inj h
        exact ⟨[], _, rfl, (by repeat (first | exact trivial | exact rfl | (refine And.intro ?_ ?_))), trivial, rfl, rfl, rfl, rfl, rfl⟩
      · refine gok hn ?_
        refine qn103 _ _ ?_
        refine qn96 _ _ ?_
        refine gor hn ?_
        refine Or.inl (And.intro (inrU hlt10 hrn) ?_)
        refine qn91 _ _ ?_
        refine EOk.done ?_
        exact ⟨⟨(n7, k2 + 1), hd2, h4⟩, [], by show n7 < n7 + 1; omega, ⟨⟨rfl, rfl, rfl, trivial⟩, trivial, rfl, rfl⟩⟩
  rintro ⟨⟨⟩, rfl⟩
  refine qn57 _ _ ?_
  refine COk.seqQ fun Q109 qn109 qx109 qr109 => ?_
  obtain ⟨o22, h21, h⟩ := bindM h
  refine COk.joinR (ι := { s : Bool // o22 = s }) (fun s => [(2, .bool s.1)]) (fun s => []) (fun Q110 qn110 qx110 qr110 => ?_) (by intro s; rw [hn]; rfl) ?_
  · refine gor hn ?_
    intro hl23
    refine bselM h21 (fun hb24 h21 => ?_) (fun hb24 h21 => ?_)
    · refine bselT hb24 ?_
      intro hl25
      refine bselT hb24 ?_
      refine bselT hb24 ?_
      refine qn110 _ _ ?_
      obtain rfl := Option.some.inj h21
      refine EOk.done ?_
      exact ⟨⟨_, rfl⟩, [], trivial, ⟨⟨rfl, trivial⟩, trivial, rfl, rfl⟩⟩
    · refine bselF hb24 ?_
      refine bselF hb24 ?_
      refine bselF hb24 ?_
      refine qn110 _ _ ?_
      obtain rfl := Option.some.inj h21
      refine EOk.done ?_
      exact ⟨⟨_, rfl⟩, [], trivial, ⟨⟨rfl, trivial⟩, trivial, rfl, rfl⟩⟩
  rintro ⟨v20, hv_⟩
  replace hv_ := hv_.symm
  subst hv_
  refine qn109 _ _ ?_
  refine got hn ?_
  obtain rfl := Option.some.inj h
  exact ⟨[], _, rfl, (by repeat (first | exact trivial | exact rfl | (refine And.intro ?_ ?_))), trivial, rfl, rfl, rfl, rfl, rfl⟩

/- qcref1.Slots -/
set_option maxRecDepth 100000 in
set_option maxHeartbeats 1000000 in
theorem qcref1_Slots_ok (N : Nat) (a0 : Wd) (a1 : Int) (r : Int) (h : qcref1_Slots N a0 a1 = some r) : Spec Try.prog 65 [] [.agg (eWd a0), .int a1] (.int r) [] [] := by
  refine Spec.of tabOk Try.func65 rfl Try.ntmps65 (by kernel_rfl) rfl rfl rfl fun Γ hn => ?_
  unfold qcref1_Slots at h
  refine COk.seqQ fun Q39 qn39 qx39 qr39 => ?_
  refine gor hn ?_
  refine qn39 _ _ ?_
  refine COk.seqQ fun Q40 qn40 qx40 qr40 => ?_
  refine gor hn ?_
  refine qn40 _ _ ?_
  refine COk.seqQ fun Q41 qn41 qx41 qr41 => ?_
  refine COk.seqQ fun Q42 qn42 qx42 qr42 => ?_
  refine gor hn ?_
  obtain ⟨r1, hr2, h⟩ := bindM h
  show CallOk Try.prog _ _ _ _
  refine CallOk.as ((qcref1_Ups_ok N a0 a1 r1 hr2).sw 0 10) (by repeat (first | exact trivial | exact rfl | (refine And.intro ?_ ?_))) trivial rfl ?_
  refine lenM (fun hl3 => ?_)
  refine qn42 _ _ ?_
  obtain ⟨o8, h9, h⟩ := bindM h
  refine COk.joinR (ι := { s : Int // o8 = s }) (fun s => [(5, .int s.1)]) (fun s => []) (fun Q64 qn64 qx64 qr64 => ?_) (by intro s; rw [hn]; rfl) ?_
  · refine COk.blkQ fun Q65 qn65 qe65 qx65 qr65 => ?_
    refine COk.loopQ (ι := { q : ((List Int) × Nat × Int) // q.1 = r1.drop q.2.1 ∧ qcref1_Slots_l1 N a0 r1 q.1 q.2.1 q.2.2 = some o8 }) (fun q => [(2, .ptr 2 0), (5, .int q.1.2.2), (10, .own 10), (11, .int (r1.length : Int)), (12, .int (q.1.2.1 : Int))]) (fun q => [(2, .box (eWd a0) 55), (10, .row 1 (List.map eInt r1) 3)]) (fun q => q.1.1.length) ⟨(r1, 0, (0 : Int)), rfl, h9⟩ [] ⟨⟨rfl, rfl, rfl, rfl, rfl, trivial⟩, ⟨rfl, rfl, trivial⟩, rfl, rfl⟩ (by intro q; rw [hn]; rfl) ?_
    rintro ⟨⟨rest_, k4, v5⟩, hd11, h9⟩ Q66 qn66 qx66 qr66
    replace hd11 : rest_ = r1.drop k4 := hd11
    rcases rest_ with _ | ⟨x13, rest10⟩
    · have hlt15 := restNil hd11
      replace h9 := (qcref1_Slots_l1.eq_1 _ _ _ _ _).symm.trans h9
      refine COk.seqQ fun Q67 qn67 qx67 qr67 => ?_
      refine gor hn ?_
      refine qn67 _ _ ?_
      refine COk.seqQ fun Q68 qn68 qx68 qr68 => ?_
      refine goc hn ?_
      refine bselF hlt15 ?_
      refine goe hn ?_
      refine qx68 _ _ _ ?_
      refine qx66 _ _ _ ?_
      refine qe65 _ _ ?_
      refine qn64 _ _ ?_
      obtain rfl := Option.some.inj h9
      refine EOk.done ?_
      exact ⟨⟨_, rfl⟩, [], trivial, ⟨⟨rfl, trivial⟩, trivial, rfl, rfl⟩⟩
    · obtain ⟨hx14, hd2, hlt15⟩ := restCons hd11
      replace h9 := (qcref1_Slots_l1.eq_2 _ _ _ _ _ _ _).symm.trans h9
      refine COk.seqQ fun Q69 qn69 qx69 qr69 => ?_
      refine gor hn ?_
      refine qn69 _ _ ?_
      refine COk.seqQ fun Q70 qn70 qx70 qr70 => ?_
      refine goc hn ?_
      refine bselT hlt15 ?_
      refine gok hn ?_
      refine qn70 _ _ ?_
      refine COk.seqQ fun Q71 qn71 qx71 qr71 => ?_
      refine COk.blkQ fun Q74 qn74 qe74 qx74 qr74 => ?_
      refine COk.seqQ fun Q75 qn75 qx75 qr75 => ?_
      refine gor hn ?_
      obtain ⟨x16, hx17, h9⟩ := bindM h9
      refine ownM hx17 ?_
      refine ldM (nthO_some hx17).2 ?_
      refine qn75 _ _ ?_
      refine gor hn ?_
      obtain ⟨x18, hx19, h9⟩ := bindM h9
      refine idxM hx19 ?_
      refine Or.inr ?_
      refine qn74 _ _ ?_
      refine qn71 _ _ ?_
      refine gor hn ?_
      refine Or.inl (And.intro (inrK hx14 hl3) ?_)
      refine qn66 _ _ ?_
      refine EOk.done ?_
      exact ⟨⟨(rest10, k4 + 1, (wr (v5 + x18.slots))), hd2, h9⟩, [], by show rest10.length < rest10.length + 1; omega, ⟨⟨rfl, rfl, rfl, rfl, rfl, trivial⟩, ⟨rfl, rfl, trivial⟩, rfl, rfl⟩⟩
  rintro ⟨v7, hv_⟩
  replace hv_ := hv_.symm
  subst hv_
  refine qn41 _ _ ?_
  refine COk.seqQ fun Q76 qn76 qx76 qr76 => ?_
  refine gor hn ?_
  refine qn76 _ _ ?_
  refine got hn ?_
  obtain rfl := Option.some.inj h
  exact ⟨[], _, rfl, (by repeat (first | exact trivial | exact rfl | (refine And.intro ?_ ?_))), trivial, rfl, rfl, rfl, rfl, rfl⟩

/- qcref1.Numbers -/
set_option maxRecDepth 100000 in
set_option maxHeartbeats 1000000 in
theorem qcref1_Numbers_ok (N : Nat) (a0 : Wd) (a1 : Int) (a2 : Me) (a3 : Ins) (r : Int) (h : qcref1_Numbers N a0 a1 a2 a3 = some r) : Spec Try.prog 74 [] [.agg (eWd a0), .int a1, .agg (eMe a2), .agg (eIns a3)] (.int r) [] [] := by
  refine Spec.of tabOk Try.func74 rfl Try.ntmps74 (by kernel_rfl) rfl rfl rfl fun Γ hn => ?_
  unfold qcref1_Numbers at h
  refine COk.seqQ fun Q35150 qn35150 qx35150 qr35150 => ?_
  refine gor hn ?_
  refine qn35150 _ _ ?_
  refine COk.seqQ fun Q35151 qn35151 qx35151 qr35151 => ?_
  refine gor hn ?_
  refine qn35151 _ _ ?_
  refine COk.seqQ fun Q35152 qn35152 qx35152 qr35152 => ?_
  refine COk.seqQ fun Q35153 qn35153 qx35153 qr35153 => ?_
  refine gor hn ?_
  refine qn35153 _ _ ?_
  refine COk.blkQ fun Q52721 qn52721 qe52721 qx52721 qr52721 => ?_
  refine COk.seqQ fun Q52722 qn52722 qx52722 qr52722 => ?_
  refine COk.seqQ fun Q52723 qn52723 qx52723 qr52723 => ?_
  refine gor hn ?_
  refine qn52723 _ _ ?_
  obtain ⟨o3, h2, h⟩ := bindM h
  refine COk.joinR (ι := { s : Bool // o3 = s }) (fun s => [(1, .int a1), (4, .ptr 4 0), (6, .ptr 6 0), (7, .ptr 7 0), (9, .int (0 : Int)), (10, .int (0 : Int)), (12, .int a3.op), (13, .bool s.1)]) (fun s => [(4, .box (eWd a0) 55), (6, .box (eMe a2) 74), (7, .box (eIns a3) 81)]) (fun Q53208 qn53208 qx53208 qr53208 => ?_) (by intro s; rw [hn]; rfl) ?_
  · refine goc hn ?_
    refine bselM h2 (fun hb4 h2 => ?_) (fun hb4 h2 => ?_)
    · refine gok hn ?_
      refine qn53208 _ _ ?_
      obtain rfl := Option.some.inj h2
      refine EOk.done ?_
      exact ⟨⟨_, rfl⟩, [], trivial, ⟨⟨rfl, rfl, rfl, rfl, rfl, rfl, rfl, rfl, trivial⟩, ⟨rfl, rfl, rfl, trivial⟩, rfl, rfl⟩⟩
    · refine COk.seqQ fun Q53209 qn53209 qx53209 qr53209 => ?_
      refine gor hn ?_
      refine qn53209 _ _ ?_
      obtain ⟨o7, h6, h2⟩ := bindM h2
      refine COk.joinR (ι := { s : Bool // o7 = s }) (fun s => [(1, .int a1), (4, .ptr 4 0), (6, .ptr 6 0), (7, .ptr 7 0), (9, .int (0 : Int)), (10, .int (0 : Int)), (12, .int a3.op), (13, .bool s.1)]) (fun s => [(4, .box (eWd a0) 55), (6, .box (eMe a2) 74), (7, .box (eIns a3) 81)]) (fun Q53370 qn53370 qx53370 qr53370 => ?_) (by intro s; rw [hn]; rfl) ?_
      · refine goc hn ?_
        refine bselM h6 (fun hb8 h6 => ?_) (fun hb8 h6 => ?_)
        · refine gok hn ?_
          refine qn53370 _ _ ?_
          obtain rfl := Option.some.inj h6
          refine EOk.done ?_
          exact ⟨⟨_, rfl⟩, [], trivial, ⟨⟨rfl, rfl, rfl, rfl, rfl, rfl, rfl, rfl, trivial⟩, ⟨rfl, rfl, rfl, trivial⟩, rfl, rfl⟩⟩
        · refine COk.seqQ fun Q53371 qn53371 qx53371 qr53371 => ?_
          refine gor hn ?_
          refine qn53371 _ _ ?_
          obtain ⟨o11, h10, h6⟩ := bindM h6
          refine COk.joinR (ι := { s : Bool // o11 = s }) (fun s => [(1, .int a1), (4, .ptr 4 0), (6, .ptr 6 0), (7, .ptr 7 0), (9, .int (0 : Int)), (10, .int (0 : Int)), (12, .int a3.op), (13, .bool s.1)]) (fun s => [(4, .box (eWd a0) 55), (6, .box (eMe a2) 74), (7, .box (eIns a3) 81)]) (fun Q53424 qn53424 qx53424 qr53424 => ?_) (by intro s; rw [hn]; rfl) ?_
          · refine goc hn ?_
            refine bselM h10 (fun hb12 h10 => ?_) (fun hb12 h10 => ?_)
            · refine gok hn ?_
              refine qn53424 _ _ ?_
              obtain rfl := Option.some.inj h10
              refine EOk.done ?_
              exact ⟨⟨_, rfl⟩, [], trivial, ⟨⟨rfl, rfl, rfl, rfl, rfl, rfl, rfl, rfl, trivial⟩, ⟨rfl, rfl, rfl, trivial⟩, rfl, rfl⟩⟩
            · refine COk.seqQ fun Q53425 qn53425 qx53425 qr53425 => ?_
              refine gor hn ?_
              refine qn53425 _ _ ?_
              obtain ⟨o15, h14, h10⟩ := bindM h10
              refine COk.joinR (ι := { s : Bool // o15 = s }) (fun s => [(1, .int a1), (4, .ptr 4 0), (6, .ptr 6 0), (7, .ptr 7 0), (9, .int (0 : Int)), (10, .int (0 : Int)), (12, .int a3.op), (13, .bool s.1)]) (fun s => [(4, .box (eWd a0) 55), (6, .box (eMe a2) 74), (7, .box (eIns a3) 81)]) (fun Q53442 qn53442 qx53442 qr53442 => ?_) (by intro s; rw [hn]; rfl) ?_
              · refine goc hn ?_
                refine bselM h14 (fun hb16 h14 => ?_) (fun hb16 h14 => ?_)
                · refine gok hn ?_
                  refine qn53442 _ _ ?_
                  obtain rfl := Option.some.inj h14
                  refine EOk.done ?_
                  exact ⟨⟨_, rfl⟩, [], trivial, ⟨⟨rfl, rfl, rfl, rfl, rfl, rfl, rfl, rfl, trivial⟩, ⟨rfl, rfl, rfl, trivial⟩, rfl, rfl⟩⟩
                · refine COk.seqQ fun Q53443 qn53443 qx53443 qr53443 => ?_
                  refine gor hn ?_
                  refine qn53443 _ _ ?_
                  obtain ⟨o19, h18, h14⟩ := bindM h14
                  refine COk.joinR (ι := { s : Bool // o19 = s }) (fun s => [(1, .int a1), (4, .ptr 4 0), (6, .ptr 6 0), (7, .ptr 7 0), (9, .int (0 : Int)), (10, .int (0 : Int)), (12, .int a3.op), (13, .bool s.1)]) (fun s => [(4, .box (eWd a0) 55), (6, .box (eMe a2) 74), (7, .box (eIns a3) 81)]) (fun Q53448 qn53448 qx53448 qr53448 => ?_) (by intro s; rw [hn]; rfl) ?_
                  · refine goc hn ?_
                    refine bselM h18 (fun hb20 h18 => ?_) (fun hb20 h18 => ?_)
                    · refine gok hn ?_
                      refine qn53448 _ _ ?_
                      obtain rfl := Option.some.inj h18
                      refine EOk.done ?_
                      exact ⟨⟨_, rfl⟩, [], trivial, ⟨⟨rfl, rfl, rfl, rfl, rfl, rfl, rfl, rfl, trivial⟩, ⟨rfl, rfl, rfl, trivial⟩, rfl, rfl⟩⟩
                    · refine COk.seqQ fun Q53449 qn53449 qx53449 qr53449 => ?_
                      refine gor hn ?_
                      refine qn53449 _ _ ?_
                      obtain ⟨o23, h22, h18⟩ := bindM h18
                      refine COk.joinR (ι := { s : Bool // o23 = s }) (fun s => [(1, .int a1), (4, .ptr 4 0), (6, .ptr 6 0), (7, .ptr 7 0), (9, .int (0 : Int)), (10, .int (0 : Int)), (12, .int a3.op), (13, .bool s.1)]) (fun s => [(4, .box (eWd a0) 55), (6, .box (eMe a2) 74), (7, .box (eIns a3) 81)]) (fun Q53450 qn53450 qx53450 qr53450 => ?_) (by intro s; rw [hn]; rfl) ?_
                      · refine goc hn ?_
                        refine bselM h22 (fun hb24 h22 => ?_) (fun hb24 h22 => ?_)
                        · refine gok hn ?_
                          refine qn53450 _ _ ?_
                          obtain rfl := Option.some.inj h22
                          refine EOk.done ?_
                          exact ⟨⟨_, rfl⟩, [], trivial, ⟨⟨rfl, rfl, rfl, rfl, rfl, rfl, rfl, rfl, trivial⟩, ⟨rfl, rfl, rfl, trivial⟩, rfl, rfl⟩⟩
                        · refine gor hn ?_
                          refine qn53450 _ _ ?_
                          obtain rfl := Option.some.inj h22
                          refine EOk.done ?_
                          exact ⟨⟨_, rfl⟩, [], trivial, ⟨⟨rfl, rfl, rfl, rfl, rfl, rfl, rfl, rfl, trivial⟩, ⟨rfl, rfl, rfl, trivial⟩, rfl, rfl⟩⟩
                      rintro ⟨v21, hv_⟩
                      replace hv_ := hv_.symm
                      subst hv_
                      refine qn53448 _ _ ?_
                      obtain rfl := Option.some.inj h18
                      refine EOk.done ?_
                      exact ⟨⟨_, rfl⟩, [], trivial, ⟨⟨rfl, rfl, rfl, rfl, rfl, rfl, rfl, rfl, trivial⟩, ⟨rfl, rfl, rfl, trivial⟩, rfl, rfl⟩⟩
                  rintro ⟨v17, hv_⟩
                  replace hv_ := hv_.symm
                  subst hv_
                  refine qn53442 _ _ ?_
                  obtain rfl := Option.some.inj h14
                  refine EOk.done ?_
                  exact ⟨⟨_, rfl⟩, [], trivial, ⟨⟨rfl, rfl, rfl, rfl, rfl, rfl, rfl, rfl, trivial⟩, ⟨rfl, rfl, rfl, trivial⟩, rfl, rfl⟩⟩
              rintro ⟨v13, hv_⟩
              replace hv_ := hv_.symm
              subst hv_
              refine qn53424 _ _ ?_
              obtain rfl := Option.some.inj h10
              refine EOk.done ?_
              exact ⟨⟨_, rfl⟩, [], trivial, ⟨⟨rfl, rfl, rfl, rfl, rfl, rfl, rfl, rfl, trivial⟩, ⟨rfl, rfl, rfl, trivial⟩, rfl, rfl⟩⟩
          rintro ⟨v9, hv_⟩
          replace hv_ := hv_.symm
          subst hv_
          refine qn53370 _ _ ?_
          obtain rfl := Option.some.inj h6
          refine EOk.done ?_
          exact ⟨⟨_, rfl⟩, [], trivial, ⟨⟨rfl, rfl, rfl, rfl, rfl, rfl, rfl, rfl, trivial⟩, ⟨rfl, rfl, rfl, trivial⟩, rfl, rfl⟩⟩
      rintro ⟨v5, hv_⟩
      replace hv_ := hv_.symm
      subst hv_
      refine qn53208 _ _ ?_
      obtain rfl := Option.some.inj h2
      refine EOk.done ?_
      exact ⟨⟨_, rfl⟩, [], trivial, ⟨⟨rfl, rfl, rfl, rfl, rfl, rfl, rfl, rfl, trivial⟩, ⟨rfl, rfl, rfl, trivial⟩, rfl, rfl⟩⟩
  rintro ⟨v1, hv_⟩
  replace hv_ := hv_.symm
  subst hv_
  refine qn52722 _ _ ?_
  obtain ⟨o28, h27, h⟩ := bindM h
  refine COk.joinR (ι := { s : (Int × Int) // o28 = Ctl.next s }) (fun s => [(7, .ptr 7 0), (9, .int s.1.1), (10, .int s.1.2)]) (fun s => [(7, .box (eIns a3) 81)]) (fun Q64675 qn64675 qx64675 qr64675 => ?_) (by intro s; rw [hn]; rfl) ?_
  · refine goc hn ?_
    refine bselM h27 (fun hb29 h27 => ?_) (fun hb29 h27 => ?_)
    · refine gok hn ?_
      refine qn64675 _ _ ?_
      obtain rfl := Option.some.inj h27
      refine EOk.done ?_
      exact ⟨⟨_, rfl⟩, [], trivial, ⟨⟨rfl, rfl, rfl, trivial⟩, ⟨rfl, trivial⟩, rfl, rfl⟩⟩
    · refine COk.seqQ fun Q64676 qn64676 qx64676 qr64676 => ?_
      refine gor hn ?_
      refine qn64676 _ _ ?_
      obtain ⟨o33, h32, h27⟩ := bindM h27
      refine COk.joinR (ι := { s : (Int × Int) // o33 = Ctl.next s }) (fun s => [(7, .ptr 7 0), (9, .int s.1.1), (10, .int s.1.2)]) (fun s => [(7, .box (eIns a3) 81)]) (fun Q68417 qn68417 qx68417 qr68417 => ?_) (by intro s; rw [hn]; rfl) ?_
      · refine goc hn ?_
        refine bselM h32 (fun hb34 h32 => ?_) (fun hb34 h32 => ?_)
        · refine gor hn ?_
          refine Or.inr ?_
          refine qn68417 _ _ ?_
          obtain rfl := Option.some.inj h32
          refine EOk.done ?_
          exact ⟨⟨_, rfl⟩, [], trivial, ⟨⟨rfl, rfl, rfl, trivial⟩, ⟨rfl, trivial⟩, rfl, rfl⟩⟩
        · refine COk.seqQ fun Q68418 qn68418 qx68418 qr68418 => ?_
          refine COk.seqQ fun Q68419 qn68419 qx68419 qr68419 => ?_
          refine gor hn ?_
          refine qn68419 _ _ ?_
          obtain ⟨o37, h36, h32⟩ := bindM h32
          refine COk.joinR (ι := { s : Bool // o37 = s }) (fun s => [(1, .int a1), (4, .ptr 4 0), (6, .ptr 6 0), (7, .ptr 7 0), (9, .int (0 : Int)), (12, .int a3.op), (26, .bool s.1)]) (fun s => [(4, .box (eWd a0) 55), (6, .box (eMe a2) 74), (7, .box (eIns a3) 81)]) (fun Q68420 qn68420 qx68420 qr68420 => ?_) (by intro s; rw [hn]; rfl) ?_
          · refine goc hn ?_
            refine bselM h36 (fun hb38 h36 => ?_) (fun hb38 h36 => ?_)
            · refine gok hn ?_
              refine qn68420 _ _ ?_
              obtain rfl := Option.some.inj h36
              refine EOk.done ?_
              exact ⟨⟨_, rfl⟩, [], trivial, ⟨⟨rfl, rfl, rfl, rfl, rfl, rfl, rfl, trivial⟩, ⟨rfl, rfl, rfl, trivial⟩, rfl, rfl⟩⟩
            · refine gor hn ?_
              refine qn68420 _ _ ?_
              obtain rfl := Option.some.inj h36
              refine EOk.done ?_
              exact ⟨⟨_, rfl⟩, [], trivial, ⟨⟨rfl, rfl, rfl, rfl, rfl, rfl, rfl, trivial⟩, ⟨rfl, rfl, rfl, trivial⟩, rfl, rfl⟩⟩
          rintro ⟨v35, hv_⟩
          replace hv_ := hv_.symm
          subst hv_
          refine qn68418 _ _ ?_
          obtain ⟨o42, h41, h32⟩ := bindM h32
          refine COk.joinR (ι := { s : (Int × Int) // o42 = Ctl.next s }) (fun s => [(7, .ptr 7 0), (9, .int s.1.1), (10, .int s.1.2)]) (fun s => [(7, .box (eIns a3) 81)]) (fun Q69665 qn69665 qx69665 qr69665 => ?_) (by intro s; rw [hn]; rfl) ?_
          · refine goc hn ?_
            refine bselM h41 (fun hb43 h41 => ?_) (fun hb43 h41 => ?_)
            · refine gor hn ?_
              refine Or.inr ?_
              refine qn69665 _ _ ?_
              obtain rfl := Option.some.inj h41
              refine EOk.done ?_
              exact ⟨⟨_, rfl⟩, [], trivial, ⟨⟨rfl, rfl, rfl, trivial⟩, ⟨rfl, trivial⟩, rfl, rfl⟩⟩
            · refine COk.seqQ fun Q69666 qn69666 qx69666 qr69666 => ?_
              refine COk.seqQ fun Q69667 qn69667 qx69667 qr69667 => ?_
              refine gor hn ?_
              refine qn69667 _ _ ?_
              obtain ⟨o46, h45, h41⟩ := bindM h41
              refine COk.joinR (ι := { s : Bool // o46 = s }) (fun s => [(1, .int a1), (4, .ptr 4 0), (6, .ptr 6 0), (7, .ptr 7 0), (9, .int (0 : Int)), (12, .int a3.op), (32, .bool s.1)]) (fun s => [(4, .box (eWd a0) 55), (6, .box (eMe a2) 74), (7, .box (eIns a3) 81)]) (fun Q69668 qn69668 qx69668 qr69668 => ?_) (by intro s; rw [hn]; rfl) ?_
              · refine goc hn ?_
                refine bselM h45 (fun hb47 h45 => ?_) (fun hb47 h45 => ?_)
                · refine gok hn ?_
                  refine qn69668 _ _ ?_
                  obtain rfl := Option.some.inj h45
                  refine EOk.done ?_
                  exact ⟨⟨_, rfl⟩, [], trivial, ⟨⟨rfl, rfl, rfl, rfl, rfl, rfl, rfl, trivial⟩, ⟨rfl, rfl, rfl, trivial⟩, rfl, rfl⟩⟩
                · refine gor hn ?_
                  refine qn69668 _ _ ?_
                  obtain rfl := Option.some.inj h45
                  refine EOk.done ?_
                  exact ⟨⟨_, rfl⟩, [], trivial, ⟨⟨rfl, rfl, rfl, rfl, rfl, rfl, rfl, trivial⟩, ⟨rfl, rfl, rfl, trivial⟩, rfl, rfl⟩⟩
              rintro ⟨v44, hv_⟩
              replace hv_ := hv_.symm
              subst hv_
              refine qn69666 _ _ ?_
              obtain ⟨o51, h50, h41⟩ := bindM h41
              refine COk.joinR (ι := { s : (Int × Int) // o51 = Ctl.next s }) (fun s => [(7, .ptr 7 0), (9, .int s.1.1), (10, .int s.1.2)]) (fun s => [(7, .box (eIns a3) 81)]) (fun Q70081 qn70081 qx70081 qr70081 => ?_) (by intro s; rw [hn]; rfl) ?_
              · refine goc hn ?_
                refine bselM h50 (fun hb52 h50 => ?_) (fun hb52 h50 => ?_)
                · refine gor hn ?_
                  obtain ⟨r53, hr54, h50⟩ := bindM h50
                  show CallOk Try.prog _ _ _ _
                  refine CallOk.as (qcref1_Slots_ok N a0 a1 r53 hr54) (by repeat (first | exact trivial | exact rfl | (refine And.intro ?_ ?_))) trivial rfl ?_
                  refine Or.inr ?_
                  refine qn70081 _ _ ?_
                  obtain rfl := Option.some.inj h50
                  refine EOk.done ?_
                  exact ⟨⟨_, rfl⟩, [], trivial, ⟨⟨rfl, rfl, rfl, trivial⟩, ⟨rfl, trivial⟩, rfl, rfl⟩⟩
                · refine COk.seqQ fun Q70082 qn70082 qx70082 qr70082 => ?_
                  refine gor hn ?_
                  refine qn70082 _ _ ?_
                  obtain ⟨o58, h57, h50⟩ := bindM h50
                  refine COk.joinR (ι := { s : (Int × Int) // o58 = Ctl.next s }) (fun s => [(7, .ptr 7 0), (9, .int s.1.1), (10, .int s.1.2)]) (fun s => [(7, .box (eIns a3) 81)]) (fun Q70219 qn70219 qx70219 qr70219 => ?_) (by intro s; rw [hn]; rfl) ?_
                  · refine goc hn ?_
                    refine bselM h57 (fun hb59 h57 => ?_) (fun hb59 h57 => ?_)
                    · refine gor hn ?_
                      refine qn70219 _ _ ?_
                      obtain rfl := Option.some.inj h57
                      refine EOk.done ?_
                      exact ⟨⟨_, rfl⟩, [], trivial, ⟨⟨rfl, rfl, rfl, trivial⟩, ⟨rfl, trivial⟩, rfl, rfl⟩⟩
                    · refine COk.seqQ fun Q70220 qn70220 qx70220 qr70220 => ?_
                      refine gor hn ?_
                      refine qn70220 _ _ ?_
                      obtain ⟨o62, h61, h57⟩ := bindM h57
                      refine COk.joinR (ι := { s : Int // o62 = Ctl.next s }) (fun s => [(7, .ptr 7 0), (9, .int (0 : Int)), (10, .int s.1)]) (fun s => [(7, .box (eIns a3) 81)]) (fun Q70265 qn70265 qx70265 qr70265 => ?_) (by intro s; rw [hn]; rfl) ?_
                      · refine goc hn ?_
                        refine bselM h61 (fun hb63 h61 => ?_) (fun hb63 h61 => ?_)
                        · refine COk.seqQ fun Q70266 qn70266 qx70266 qr70266 => ?_
                          refine gor hn ?_
                          refine lenM (fun hl64 => ?_)
                          refine Or.inr ?_
                          refine qn70266 _ _ ?_
                          refine COk.seqQ fun Q70267 qn70267 qx70267 qr70267 => ?_
                          obtain ⟨o67, h66, h61⟩ := bindM h61
                          refine COk.joinR (ι := { s : Bool // o67 = s }) (fun s => [(7, .ptr 7 0), (9, .int (0 : Int)), (10, .int (wr ((a0.classes.length : Int) - (1 : Int)))), (54, .bool s.1)]) (fun s => [(7, .box (eIns a3) 81)]) (fun Q70268 qn70268 qx70268 qr70268 => ?_) (by intro s; rw [hn]; rfl) ?_
                          · refine gor hn ?_
                            refine bselM h66 (fun hb68 h66 => ?_) (fun hb68 h66 => ?_)
                            · refine bselT hb68 ?_
                              refine bselT hb68 ?_
                              refine bselT hb68 ?_
                              refine qn70268 _ _ ?_
                              obtain rfl := Option.some.inj h66
                              refine EOk.done ?_
                              exact ⟨⟨_, rfl⟩, [], trivial, ⟨⟨rfl, rfl, rfl, rfl, trivial⟩, ⟨rfl, trivial⟩, rfl, rfl⟩⟩
                            · refine bselF hb68 ?_
                              refine bselF hb68 ?_
                              refine bselF hb68 ?_
                              refine qn70268 _ _ ?_
                              obtain rfl := Option.some.inj h66
                              refine EOk.done ?_
                              exact ⟨⟨_, rfl⟩, [], trivial, ⟨⟨rfl, rfl, rfl, rfl, trivial⟩, ⟨rfl, trivial⟩, rfl, rfl⟩⟩
                          rintro ⟨v65, hv_⟩
                          replace hv_ := hv_.symm
                          subst hv_
                          refine qn70267 _ _ ?_
                          refine goc hn ?_
                          refine bselM h61 (fun hb69 h61 => ?_) (fun hb69 h61 => ?_)
                          · refine COk.seqQ fun Q70270 qn70270 qx70270 qr70270 => ?_
                            refine gor hn ?_
                            refine qn70270 _ _ ?_
                            refine got hn ?_
                            refine qr70265 _ _ ?_
                            refine qr70219 _ _ ?_
                            refine qr70081 _ _ ?_
                            refine qr69665 _ _ ?_
                            refine qr68417 _ _ ?_
                            refine qr64675 _ _ ?_
                            refine qr52721 _ _ ?_
                            refine qr35152 _ _ ?_
                            obtain rfl := Option.some.inj h61
                            obtain rfl := Option.some.inj h57
                            obtain rfl := Option.some.inj h50
                            obtain rfl := Option.some.inj h41
                            obtain rfl := Option.some.inj h32
                            obtain rfl := Option.some.inj h27
                            obtain rfl := Option.some.inj h
                            exact ⟨[], _, rfl, (by repeat (first | exact trivial | exact rfl | (refine And.intro ?_ ?_))), trivial, rfl, rfl, rfl, rfl, rfl⟩
                          · refine gok hn ?_
                            refine qn70265 _ _ ?_
                            obtain rfl := Option.some.inj h61
                            refine EOk.done ?_
                            exact ⟨⟨_, rfl⟩, [], trivial, ⟨⟨rfl, rfl, rfl, trivial⟩, ⟨rfl, trivial⟩, rfl, rfl⟩⟩
                        · refine COk.seqQ fun Q70271 qn70271 qx70271 qr70271 => ?_
                          refine gor hn ?_
                          refine qn70271 _ _ ?_
                          obtain ⟨o72, h71, h61⟩ := bindM h61
                          refine COk.joinR (ι := { s : Int // o72 = Ctl.next s }) (fun s => [(7, .ptr 7 0), (9, .int (0 : Int)), (10, .int s.1)]) (fun s => [(7, .box (eIns a3) 81)]) (fun Q70282 qn70282 qx70282 qr70282 => ?_) (by intro s; rw [hn]; rfl) ?_
                          · refine goc hn ?_
                            refine bselM h71 (fun hb73 h71 => ?_) (fun hb73 h71 => ?_)
                            · refine gor hn ?_
                              refine qn70282 _ _ ?_
                              obtain rfl := Option.some.inj h71
                              refine EOk.done ?_
                              exact ⟨⟨_, rfl⟩, [], trivial, ⟨⟨rfl, rfl, rfl, trivial⟩, ⟨rfl, trivial⟩, rfl, rfl⟩⟩
                            · refine COk.seqQ fun Q70283 qn70283 qx70283 qr70283 => ?_
                              refine COk.seqQ fun Q70284 qn70284 qx70284 qr70284 => ?_
                              refine gor hn ?_
                              refine qn70284 _ _ ?_
                              obtain ⟨o76, h75, h71⟩ := bindM h71
                              refine COk.joinR (ι := { s : Bool // o76 = s }) (fun s => [(6, .ptr 6 0), (7, .ptr 7 0), (9, .int (0 : Int)), (57, .bool s.1)]) (fun s => [(6, .box (eMe a2) 74), (7, .box (eIns a3) 81)]) (fun Q70285 qn70285 qx70285 qr70285 => ?_) (by intro s; rw [hn]; rfl) ?_
                              · refine goc hn ?_
                                refine bselM h75 (fun hb77 h75 => ?_) (fun hb77 h75 => ?_)
                                · refine gok hn ?_
                                  refine qn70285 _ _ ?_
                                  obtain rfl := Option.some.inj h75
                                  refine EOk.done ?_
                                  exact ⟨⟨_, rfl⟩, [], trivial, ⟨⟨rfl, rfl, rfl, rfl, trivial⟩, ⟨rfl, rfl, trivial⟩, rfl, rfl⟩⟩
                                · refine gor hn ?_
                                  refine qn70285 _ _ ?_
                                  obtain rfl := Option.some.inj h75
                                  refine EOk.done ?_
                                  exact ⟨⟨_, rfl⟩, [], trivial, ⟨⟨rfl, rfl, rfl, rfl, trivial⟩, ⟨rfl, rfl, trivial⟩, rfl, rfl⟩⟩
                              rintro ⟨v74, hv_⟩
                              replace hv_ := hv_.symm
                              subst hv_
                              refine qn70283 _ _ ?_
                              refine goc hn ?_
                              refine bselM h71 (fun hb78 h71 => ?_) (fun hb78 h71 => ?_)
                              · refine gor hn ?_
                                refine lenM (fun hl79 => ?_)
                                refine Or.inr ?_
                                refine qn70282 _ _ ?_
                                obtain rfl := Option.some.inj h71
                                refine EOk.done ?_
                                exact ⟨⟨_, rfl⟩, [], trivial, ⟨⟨rfl, rfl, rfl, trivial⟩, ⟨rfl, trivial⟩, rfl, rfl⟩⟩
                              · refine COk.seqQ fun Q70287 qn70287 qx70287 qr70287 => ?_
                                refine gor hn ?_
                                refine qn70287 _ _ ?_
                                refine got hn ?_
                                refine qr70282 _ _ ?_
                                refine qr70265 _ _ ?_
                                refine qr70219 _ _ ?_
                                refine qr70081 _ _ ?_
                                refine qr69665 _ _ ?_
                                refine qr68417 _ _ ?_
                                refine qr64675 _ _ ?_
                                refine qr52721 _ _ ?_
                                refine qr35152 _ _ ?_
                                obtain rfl := Option.some.inj h71
                                obtain rfl := Option.some.inj h61
                                obtain rfl := Option.some.inj h57
                                obtain rfl := Option.some.inj h50
                                obtain rfl := Option.some.inj h41
                                obtain rfl := Option.some.inj h32
                                obtain rfl := Option.some.inj h27
                                obtain rfl := Option.some.inj h
                                exact ⟨[], _, rfl, (by repeat (first | exact trivial | exact rfl | (refine And.intro ?_ ?_))), trivial, rfl, rfl, rfl, rfl, rfl⟩
                          rintro ⟨v70, rfl⟩
                          refine qn70265 _ _ ?_
                          obtain rfl := Option.some.inj h61
                          refine EOk.done ?_
                          exact ⟨⟨_, rfl⟩, [], trivial, ⟨⟨rfl, rfl, rfl, trivial⟩, ⟨rfl, trivial⟩, rfl, rfl⟩⟩
                      rintro ⟨v60, rfl⟩
                      refine qn70219 _ _ ?_
                      obtain rfl := Option.some.inj h57
                      refine EOk.done ?_
                      exact ⟨⟨_, rfl⟩, [], trivial, ⟨⟨rfl, rfl, rfl, trivial⟩, ⟨rfl, trivial⟩, rfl, rfl⟩⟩
                  rintro ⟨⟨v55, v56⟩, rfl⟩
                  refine qn70081 _ _ ?_
                  obtain rfl := Option.some.inj h50
                  refine EOk.done ?_
                  exact ⟨⟨_, rfl⟩, [], trivial, ⟨⟨rfl, rfl, rfl, trivial⟩, ⟨rfl, trivial⟩, rfl, rfl⟩⟩
              rintro ⟨⟨v48, v49⟩, rfl⟩
              refine qn69665 _ _ ?_
              obtain rfl := Option.some.inj h41
              refine EOk.done ?_
              exact ⟨⟨_, rfl⟩, [], trivial, ⟨⟨rfl, rfl, rfl, trivial⟩, ⟨rfl, trivial⟩, rfl, rfl⟩⟩
          rintro ⟨⟨v39, v40⟩, rfl⟩
          refine qn68417 _ _ ?_
          obtain rfl := Option.some.inj h32
          refine EOk.done ?_
          exact ⟨⟨_, rfl⟩, [], trivial, ⟨⟨rfl, rfl, rfl, trivial⟩, ⟨rfl, trivial⟩, rfl, rfl⟩⟩
      rintro ⟨⟨v30, v31⟩, rfl⟩
      refine qn64675 _ _ ?_
      obtain rfl := Option.some.inj h27
      refine EOk.done ?_
      exact ⟨⟨_, rfl⟩, [], trivial, ⟨⟨rfl, rfl, rfl, trivial⟩, ⟨rfl, trivial⟩, rfl, rfl⟩⟩
  rintro ⟨⟨v25, v26⟩, rfl⟩
  refine qn52721 _ _ ?_
  refine qn35152 _ _ ?_
  refine COk.seqQ fun Q70288 qn70288 qx70288 qr70288 => ?_
  refine COk.seqQ fun Q70289 qn70289 qx70289 qr70289 => ?_
  obtain ⟨o82, h81, h⟩ := bindM h
  refine COk.joinR (ι := { s : Bool // o82 = s }) (fun s => [(7, .ptr 7 0), (73, .bool s.1)]) (fun s => [(7, .box (eIns a3) 81)]) (fun Q70290 qn70290 qx70290 qr70290 => ?_) (by intro s; rw [hn]; rfl) ?_
  · refine gor hn ?_
    refine bselM h81 (fun hb83 h81 => ?_) (fun hb83 h81 => ?_)
    · refine bselT hb83 ?_
      refine bselT hb83 ?_
      refine bselT hb83 ?_
      refine bselT hb83 ?_
      refine qn70290 _ _ ?_
      obtain rfl := Option.some.inj h81
      refine EOk.done ?_
      exact ⟨⟨_, rfl⟩, [], trivial, ⟨⟨rfl, rfl, trivial⟩, ⟨rfl, trivial⟩, rfl, rfl⟩⟩
    · refine bselF hb83 ?_
      refine bselF hb83 ?_
      refine bselF hb83 ?_
      refine bselF hb83 ?_
      refine qn70290 _ _ ?_
      obtain rfl := Option.some.inj h81
      refine EOk.done ?_
      exact ⟨⟨_, rfl⟩, [], trivial, ⟨⟨rfl, rfl, trivial⟩, ⟨rfl, trivial⟩, rfl, rfl⟩⟩
  rintro ⟨v80, hv_⟩
  replace hv_ := hv_.symm
  subst hv_
  refine qn70289 _ _ ?_
  refine goc hn ?_
  refine bselM h (fun hb84 h => ?_) (fun hb84 h => ?_)
  · refine COk.seqQ fun Q70292 qn70292 qx70292 qr70292 => ?_
    refine gor hn ?_
    refine qn70292 _ _ ?_
    refine got hn ?_
    refine qr70288 _ _ ?_
    obtain rfl := Option.some.inj h
    exact ⟨[], _, rfl, (by repeat (first | exact trivial | exact rfl | (refine And.intro ?_ ?_))), trivial, rfl, rfl, rfl, rfl, rfl⟩
  · refine gok hn ?_
    refine qn70288 _ _ ?_
    refine COk.seqQ fun Q70293 qn70293 qx70293 qr70293 => ?_
    refine COk.seqQ fun Q70294 qn70294 qx70294 qr70294 => ?_
    obtain ⟨o87, h86, h⟩ := bindM h
    refine COk.joinR (ι := { s : Bool // o87 = s }) (fun s => [(102, .bool s.1)]) (fun s => []) (fun Q70295 qn70295 qx70295 qr70295 => ?_) (by intro s; rw [hn]; rfl) ?_
    · refine gor hn ?_
      refine bselM h86 (fun hb88 h86 => ?_) (fun hb88 h86 => ?_)
      · refine bselT hb88 ?_
        refine bselT hb88 ?_
        obtain ⟨r89, hr90, h86⟩ := bindM h86
        show CallOk Try.prog _ _ _ _
        refine CallOk.as (qcref1_Name_ok N a3.name r89 hr90) (by repeat (first | exact trivial | exact rfl | (refine And.intro ?_ ?_))) trivial rfl ?_
        refine bselT hb88 ?_
        refine bselT hb88 ?_
        refine bselM h86 (fun hb91 h86 => ?_) (fun hb91 h86 => ?_)
        · refine bselT hb91 ?_
          refine bselT hb91 ?_
          refine bselT hb91 ?_
          refine bselT hb91 ?_
          refine bselT hb91 ?_
          refine qn70295 _ _ ?_
          obtain rfl := Option.some.inj h86
          refine EOk.done ?_
          exact ⟨⟨_, rfl⟩, [], trivial, ⟨⟨rfl, trivial⟩, trivial, rfl, rfl⟩⟩
        · refine bselF hb91 ?_
          refine bselF hb91 ?_
          refine bselF hb91 ?_
          refine bselM h86 (fun hb92 h86 => ?_) (fun hb92 h86 => ?_)
          · refine bselT hb92 ?_
            refine bselT hb92 ?_
            refine bselF hb91 ?_
            refine bselT hb92 ?_
            refine bselF hb91 ?_
            refine bselM h86 (fun hb93 h86 => ?_) (fun hb93 h86 => ?_)
            · refine bselT hb93 ?_
              refine bselT hb93 ?_
              refine bselT hb93 ?_
              refine qn70295 _ _ ?_
              obtain rfl := Option.some.inj h86
              refine EOk.done ?_
              exact ⟨⟨_, rfl⟩, [], trivial, ⟨⟨rfl, trivial⟩, trivial, rfl, rfl⟩⟩
            · refine bselF hb93 ?_
              refine bselF hb93 ?_
              refine bselF hb93 ?_
              refine bselM h86 (fun hb94 h86 => ?_) (fun hb94 h86 => ?_)
              · refine bselT hb94 ?_
                refine bselT hb94 ?_
                refine bselT hb94 ?_
                refine qn70295 _ _ ?_
                obtain rfl := Option.some.inj h86
                refine EOk.done ?_
                exact ⟨⟨_, rfl⟩, [], trivial, ⟨⟨rfl, trivial⟩, trivial, rfl, rfl⟩⟩
              · refine bselF hb94 ?_
                refine bselF hb94 ?_
                refine bselF hb94 ?_
                refine qn70295 _ _ ?_
                obtain rfl := Option.some.inj h86
                refine EOk.done ?_
                exact ⟨⟨_, rfl⟩, [], trivial, ⟨⟨rfl, trivial⟩, trivial, rfl, rfl⟩⟩
          · refine bselF hb92 ?_
            refine bselF hb92 ?_
            refine bselF hb91 ?_
            refine bselF hb92 ?_
            refine bselF hb91 ?_
            refine bselM h86 (fun hb95 h86 => ?_) (fun hb95 h86 => ?_)
            · refine bselT hb95 ?_
              refine bselT hb95 ?_
              refine bselT hb95 ?_
              refine qn70295 _ _ ?_
              obtain rfl := Option.some.inj h86
              refine EOk.done ?_
              exact ⟨⟨_, rfl⟩, [], trivial, ⟨⟨rfl, trivial⟩, trivial, rfl, rfl⟩⟩
            · refine bselF hb95 ?_
              refine bselF hb95 ?_
              refine bselF hb95 ?_
              refine qn70295 _ _ ?_
              obtain rfl := Option.some.inj h86
              refine EOk.done ?_
              exact ⟨⟨_, rfl⟩, [], trivial, ⟨⟨rfl, trivial⟩, trivial, rfl, rfl⟩⟩
      · refine bselF hb88 ?_
        refine bselF hb88 ?_
        refine bselF hb88 ?_
        refine bselF hb88 ?_
        refine bselM h86 (fun hb96 h86 => ?_) (fun hb96 h86 => ?_)
        · refine bselT hb96 ?_
          refine bselT hb96 ?_
          refine bselT hb96 ?_
          refine bselM h86 (fun hb97 h86 => ?_) (fun hb97 h86 => ?_)
          · refine bselT hb97 ?_
            refine bselT hb97 ?_
            refine bselT hb97 ?_
            refine qn70295 _ _ ?_
            obtain rfl := Option.some.inj h86
            refine EOk.done ?_
            exact ⟨⟨_, rfl⟩, [], trivial, ⟨⟨rfl, trivial⟩, trivial, rfl, rfl⟩⟩
          · refine bselF hb97 ?_
            refine bselF hb97 ?_
            refine bselF hb97 ?_
            refine bselM h86 (fun hb98 h86 => ?_) (fun hb98 h86 => ?_)
            · refine bselT hb98 ?_
              refine bselT hb98 ?_
              refine bselT hb98 ?_
              refine qn70295 _ _ ?_
              obtain rfl := Option.some.inj h86
              refine EOk.done ?_
              exact ⟨⟨_, rfl⟩, [], trivial, ⟨⟨rfl, trivial⟩, trivial, rfl, rfl⟩⟩
            · refine bselF hb98 ?_
              refine bselF hb98 ?_
              refine bselF hb98 ?_
              refine qn70295 _ _ ?_
              obtain rfl := Option.some.inj h86
              refine EOk.done ?_
              exact ⟨⟨_, rfl⟩, [], trivial, ⟨⟨rfl, trivial⟩, trivial, rfl, rfl⟩⟩
        · refine bselF hb96 ?_
          refine bselF hb96 ?_
          refine bselF hb96 ?_
          refine bselM h86 (fun hb99 h86 => ?_) (fun hb99 h86 => ?_)
          · refine bselT hb99 ?_
            refine bselT hb99 ?_
            refine bselT hb99 ?_
            refine qn70295 _ _ ?_
            obtain rfl := Option.some.inj h86
            refine EOk.done ?_
            exact ⟨⟨_, rfl⟩, [], trivial, ⟨⟨rfl, trivial⟩, trivial, rfl, rfl⟩⟩
          · refine bselF hb99 ?_
            refine bselF hb99 ?_
            refine bselF hb99 ?_
            refine qn70295 _ _ ?_
            obtain rfl := Option.some.inj h86
            refine EOk.done ?_
            exact ⟨⟨_, rfl⟩, [], trivial, ⟨⟨rfl, trivial⟩, trivial, rfl, rfl⟩⟩
    rintro ⟨v85, hv_⟩
    replace hv_ := hv_.symm
    subst hv_
    refine qn70294 _ _ ?_
    refine goc hn ?_
    refine bselM h (fun hb100 h => ?_) (fun hb100 h => ?_)
    · refine COk.seqQ fun Q70297 qn70297 qx70297 qr70297 => ?_
      refine gor hn ?_
      refine qn70297 _ _ ?_
      refine got hn ?_
      refine qr70293 _ _ ?_
      obtain rfl := Option.some.inj h
      exact ⟨[], _, rfl, (by repeat (first | exact trivial | exact rfl | (refine And.intro ?_ ?_))), trivial, rfl, rfl, rfl, rfl, rfl⟩
    · refine gok hn ?_
      refine qn70293 _ _ ?_
      refine COk.seqQ fun Q70298 qn70298 qx70298 qr70298 => ?_
      refine gor hn ?_
      refine qn70298 _ _ ?_
      refine got hn ?_
      obtain rfl := Option.some.inj h
      exact ⟨[], _, rfl, (by repeat (first | exact trivial | exact rfl | (refine And.intro ?_ ?_))), trivial, rfl, rfl, rfl, rfl, rfl⟩
end Go.Proofs.Ytioalgofaiideaa
