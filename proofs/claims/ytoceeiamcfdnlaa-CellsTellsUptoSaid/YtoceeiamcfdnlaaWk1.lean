/- Walks after the mirrors. Printed by mir.py. -/
import Derived.Test.YtoceeiamcfdnlaaMir
import Derived.Test.YtoceeiamcfdnlaaYnew
namespace Go.Proofs.Ytoceeiamcfdnlaa
open Go.RowKit
set_option linter.unusedVariables false
/- slices.IndexFunc[[]api.Cell,api.Cell] -/
set_option maxRecDepth 100000 in
set_option maxHeartbeats 1000000 in
theorem slices_IndexFunc_api_Cell_api_Cell_c1_ok (N : Nat) (a0 : (List Ce)) (g1 : Ce → Option Bool) {K1 : Nat} {c1_0 : List AV} (hg1 : ∀ x0_ y_, g1 x0_ = some y_ → Spec Try.prog K1 [] [.agg (eCe x0_), .fp c1_0] (.bool y_) [] []) (r : Int) (h : slices_IndexFunc_api_Cell_api_Cell_c1 N a0 g1 = some r) : Spec Try.prog 74 [] [.sl 6 (List.map eCe a0), .fn K1 [.fp c1_0]] (.int r) [] [] := by
  refine Spec.of tabOk Try.func74 rfl Try.ntmps74 (by kernel_rfl) rfl rfl rfl fun Γ hn => ?_
  unfold slices_IndexFunc_api_Cell_api_Cell_c1 at h
  refine COk.seqQ fun Q49 qn49 qx49 qr49 => ?_
  refine gor hn ?_
  refine qn49 _ _ ?_
  refine COk.seqQ fun Q50 qn50 qx50 qr50 => ?_
  refine COk.seqQ fun Q51 qn51 qx51 qr51 => ?_
  refine gor hn ?_
  refine lenM (fun hl1 => ?_)
  refine qn51 _ _ ?_
  obtain ⟨o3, h4, h⟩ := bindM h
  refine COk.joinR (ι := { s : Unit // o3 = Ctl.next s }) (fun s => []) (fun s => []) (fun Q78 qn78 qx78 qr78 => ?_) (by intro s; rw [hn]; rfl) ?_
  · refine COk.blkQ fun Q79 qn79 qe79 qx79 qr79 => ?_
    refine COk.loopQ (ι := { q : ((List Ce) × Nat) // q.1 = a0.drop q.2 ∧ slices_IndexFunc_api_Cell_api_Cell_c1_l1 N g1 q.1 q.2 = some o3 }) (fun q => [(0, .sl 6 (List.map eCe a0)), (1, .fn K1 [.fp c1_0]), (7, .int (a0.length : Int)), (8, .int (q.1.2 : Int))]) (fun q => []) (fun q => q.1.1.length) ⟨(a0, 0), rfl, h4⟩ [] ⟨⟨(by repeat (first | exact trivial | exact rfl | (refine And.intro ?_ ?_))), rfl, rfl, rfl, trivial⟩, trivial, rfl, rfl⟩ (by intro q; rw [hn]; rfl) ?_
    rintro ⟨⟨rest_, k2⟩, hd6, h4⟩ Q80 qn80 qx80 qr80
    replace hd6 : rest_ = a0.drop k2 := hd6
    rcases rest_ with _ | ⟨x8, rest5⟩
    · have hlt10 := restNil hd6
      replace h4 := (slices_IndexFunc_api_Cell_api_Cell_c1_l1.eq_1 _ _ _).symm.trans h4
      refine COk.seqQ fun Q81 qn81 qx81 qr81 => ?_
      refine gor hn ?_
      refine qn81 _ _ ?_
      refine COk.seqQ fun Q82 qn82 qx82 qr82 => ?_
      refine goc hn ?_
      refine bselF hlt10 ?_
      refine goe hn ?_
      refine qx82 _ _ _ ?_
      refine qx80 _ _ _ ?_
      refine qe79 _ _ ?_
      refine qn78 _ _ ?_
      obtain rfl := Option.some.inj h4
      refine EOk.done ?_
      exact ⟨⟨_, rfl⟩, [], trivial, ⟨trivial, trivial, rfl, rfl⟩⟩
    · obtain ⟨hx9, hd2, hlt10⟩ := restCons hd6
      replace h4 := (slices_IndexFunc_api_Cell_api_Cell_c1_l1.eq_2 _ _ _ _ _).symm.trans h4
      refine COk.seqQ fun Q83 qn83 qx83 qr83 => ?_
      refine gor hn ?_
      refine qn83 _ _ ?_
      refine COk.seqQ fun Q84 qn84 qx84 qr84 => ?_
      refine goc hn ?_
      refine bselT hlt10 ?_
      refine gok hn ?_
      refine qn84 _ _ ?_
      refine COk.seqQ fun Q85 qn85 qx85 qr85 => ?_
      refine COk.blkQ fun Q91 qn91 qe91 qx91 qr91 => ?_
      refine COk.seqQ fun Q92 qn92 qx92 qr92 => ?_
      refine gor hn ?_
      refine qn92 _ _ ?_
      refine COk.seqQ fun Q93 qn93 qx93 qr93 => ?_
      refine gor hn ?_
      refine idxK hx9 ?_
      obtain ⟨r11, hr12, h4⟩ := bindM h4
      show CallOk Try.prog _ _ _ _
      refine CallOk.as (hg1 _ _ hr12) (by repeat (first | exact trivial | exact rfl | (refine And.intro ?_ ?_))) trivial rfl ?_
      refine qn93 _ _ ?_
      refine goc hn ?_
      refine bselM h4 (fun hb13 h4 => ?_) (fun hb13 h4 => ?_)
      · refine COk.seqQ fun Q95 qn95 qx95 qr95 => ?_
        refine gor hn ?_
        refine qn95 _ _ ?_
        refine got hn ?_
        refine qr91 _ _ ?_
        refine qr85 _ _ ?_
        refine qr80 _ _ ?_
        refine qr79 _ _ ?_
        refine qr78 _ _ ?_
        refine qr50 _ _ ?_
        obtain rfl := Option.some.inj h4
        obtain rfl := Option.some.inj h
        exact ⟨[], _, rfl, (by repeat (first | exact trivial | exact rfl | (refine And.intro ?_ ?_))), trivial, rfl, rfl, rfl, rfl, rfl⟩
      · refine gok hn ?_
        refine qn91 _ _ ?_
        refine qn85 _ _ ?_
        refine gor hn ?_
        refine Or.inl (And.intro (inrK hx9 hl1) ?_)
        refine qn80 _ _ ?_
        refine EOk.done ?_
        exact ⟨⟨(rest5, k2 + 1), hd2, h4⟩, [], by show rest5.length < rest5.length + 1; omega, ⟨⟨(by repeat (first | exact trivial | exact rfl | (refine And.intro ?_ ?_))), rfl, rfl, rfl, trivial⟩, trivial, rfl, rfl⟩⟩
  rintro ⟨⟨⟩, rfl⟩
  refine qn50 _ _ ?_
  refine COk.seqQ fun Q96 qn96 qx96 qr96 => ?_
  refine gor hn ?_
  refine qn96 _ _ ?_
  refine got hn ?_
  obtain rfl := Option.some.inj h
  exact ⟨[], _, rfl, (by repeat (first | exact trivial | exact rfl | (refine And.intro ?_ ?_))), trivial, rfl, rfl, rfl, rfl, rfl⟩

/- cells.where$1 -/
set_option maxRecDepth 100000 in
set_option maxHeartbeats 1000000 in
theorem cells_where_1_ok (N : Nat) (a0 : Ce) (b0 : St) (r : Bool) (h : cells_where_1 N a0 b0 = some r) : Spec Try.prog 75 [] [.agg (eCe a0), .fp (eSt b0)] (.bool r) [] [] := by
  refine Spec.of tabOk Try.func75 rfl Try.ntmps75 (by kernel_rfl) rfl rfl rfl fun Γ hn => ?_
  unfold cells_where_1 at h
  refine COk.seqQ fun Q3 qn3 qx3 qr3 => ?_
  refine gor hn ?_
  refine qn3 _ _ ?_
  refine COk.seqQ fun Q4 qn4 qx4 qr4 => ?_
  refine gor hn ?_
  refine qn4 _ _ ?_
  refine got hn ?_
  obtain rfl := Option.some.inj h
  exact ⟨[], _, rfl, (by repeat (first | exact trivial | exact rfl | (refine And.intro ?_ ?_))), trivial, rfl, rfl, rfl, rfl, rfl⟩

/- cells.where -/
set_option maxRecDepth 100000 in
set_option maxHeartbeats 1000000 in
theorem cells_where_ok (N : Nat) (a0 : (List Ce)) (a1 : St) (r : Int) (h : cells_where N a0 a1 = some r) : Spec Try.prog 47 [] [.sl 6 (List.map eCe a0), .agg (eSt a1)] (.int r) [] [] := by
  refine Spec.of tabOk Try.func47 rfl Try.ntmps47 (by kernel_rfl) rfl rfl rfl fun Γ hn => ?_
  unfold cells_where at h
  refine COk.seqQ fun Q3 qn3 qx3 qr3 => ?_
  refine gor hn ?_
  refine qn3 _ _ ?_
  refine COk.seqQ fun Q4 qn4 qx4 qr4 => ?_
  refine COk.gh (Gh.fzBox 3 3 rfl rfl rfl) (fun _ => ?_)
  refine COk.sub (ts2 := [(0, .sl 6 (List.map eCe a0)), (3, .fp (eSt a1))]) (os2 := []) [] ⟨⟨(by repeat (first | exact trivial | exact rfl | (refine And.intro ?_ ?_))), (by repeat (first | exact trivial | exact rfl | (refine And.intro ?_ ?_))), trivial⟩, trivial, rfl, rfl⟩ (by rw [hn]; rfl) ?_
  refine gor hn ?_
  obtain ⟨r1, hr2, h⟩ := bindM h
  show CallOk Try.prog _ _ _ _
  refine CallOk.as (slices_IndexFunc_api_Cell_api_Cell_c1_ok N a0 (fun x0_ => cells_where_1 N x0_ a1) (fun x0_ y_ hy_ => cells_where_1_ok N x0_ a1 y_ hy_) r1 hr2) (by repeat (first | exact trivial | exact rfl | (refine And.intro ?_ ?_))) trivial rfl ?_
  refine qn4 _ _ ?_
  refine got hn ?_
  obtain rfl := Option.some.inj h
  exact ⟨[], _, rfl, (by repeat (first | exact trivial | exact rfl | (refine And.intro ?_ ?_))), trivial, rfl, rfl, rfl, rfl, rfl⟩

/- cells.Get -/
set_option maxRecDepth 100000 in
set_option maxHeartbeats 1000000 in
theorem cells_Get_ok (N : Nat) (a0 : (List Ce)) (a1 : St) (a2 : Int) (a3 : Int) (r : Int) (h : cells_Get N a0 a1 a2 a3 = some r) : Spec Try.prog 13 [] [.sl 6 (List.map eCe a0), .agg (eSt a1), .int a2, .int a3] (.int r) [] [] := by
  refine Spec.of tabOk Try.func13 rfl Try.ntmps13 (by kernel_rfl) rfl rfl rfl fun Γ hn => ?_
  unfold cells_Get at h
  refine COk.seqQ fun Q55 qn55 qx55 qr55 => ?_
  refine gor hn ?_
  refine qn55 _ _ ?_
  refine COk.seqQ fun Q56 qn56 qx56 qr56 => ?_
  refine gor hn ?_
  obtain ⟨r1, hr2, h⟩ := bindM h
  show CallOk Try.prog _ _ _ _
  refine CallOk.as (cells_where_ok N a0 a1 r1 hr2) (by repeat (first | exact trivial | exact rfl | (refine And.intro ?_ ?_))) trivial rfl ?_
  refine qn56 _ _ ?_
  refine COk.seqQ fun Q57 qn57 qx57 qr57 => ?_
  refine COk.seqQ fun Q58 qn58 qx58 qr58 => ?_
  obtain ⟨o5, h4, h⟩ := bindM h
  refine COk.joinR (ι := { s : Bool // o5 = s }) (fun s => [(0, .sl 6 (List.map eCe a0)), (3, .int a3), (9, .int r1), (25, .bool s.1)]) (fun s => []) (fun Q59 qn59 qx59 qr59 => ?_) (by intro s; rw [hn]; rfl) ?_
  · refine gor hn ?_
    refine bselM h4 (fun hb6 h4 => ?_) (fun hb6 h4 => ?_)
    · refine bselT hb6 ?_
      refine bselT hb6 ?_
      refine bselT hb6 ?_
      refine bselT hb6 ?_
      refine bselT hb6 ?_
      refine bselT hb6 ?_
      refine bselT hb6 ?_
      refine qn59 _ _ ?_
      obtain rfl := Option.some.inj h4
      refine EOk.done ?_
      exact ⟨⟨_, rfl⟩, [], trivial, ⟨⟨(by repeat (first | exact trivial | exact rfl | (refine And.intro ?_ ?_))), rfl, rfl, rfl, trivial⟩, trivial, rfl, rfl⟩⟩
    · refine bselF hb6 ?_
      refine bselF hb6 ?_
      obtain ⟨x7, hx8, h4⟩ := bindM h4
      refine idxM hx8 ?_
      refine bselF hb6 ?_
      refine bselF hb6 ?_
      refine bselF hb6 ?_
      refine bselF hb6 ?_
      refine bselF hb6 ?_
      refine qn59 _ _ ?_
      obtain rfl := Option.some.inj h4
      refine EOk.done ?_
      exact ⟨⟨_, rfl⟩, [], trivial, ⟨⟨(by repeat (first | exact trivial | exact rfl | (refine And.intro ?_ ?_))), rfl, rfl, rfl, trivial⟩, trivial, rfl, rfl⟩⟩
  rintro ⟨v3, hv_⟩
  replace hv_ := hv_.symm
  subst hv_
  refine qn58 _ _ ?_
  refine goc hn ?_
  refine bselM h (fun hb9 h => ?_) (fun hb9 h => ?_)
  · refine COk.seqQ fun Q61 qn61 qx61 qr61 => ?_
    refine gor hn ?_
    refine qn61 _ _ ?_
    refine got hn ?_
    refine qr57 _ _ ?_
    obtain rfl := Option.some.inj h
    exact ⟨[], _, rfl, (by repeat (first | exact trivial | exact rfl | (refine And.intro ?_ ?_))), trivial, rfl, rfl, rfl, rfl, rfl⟩
  · refine gok hn ?_
    refine qn57 _ _ ?_
    refine COk.seqQ fun Q62 qn62 qx62 qr62 => ?_
    refine COk.seqQ fun Q63 qn63 qx63 qr63 => ?_
    refine gor hn ?_
    obtain ⟨x10, hx11, h⟩ := bindM h
    refine idxM hx11 ?_
    refine lenM (fun hl12 => ?_)
    refine qn63 _ _ ?_
    obtain ⟨o14, h15, h⟩ := bindM h
    refine COk.joinR (ι := { s : Unit // o14 = Ctl.next s }) (fun s => []) (fun s => []) (fun Q90 qn90 qx90 qr90 => ?_) (by intro s; rw [hn]; rfl) ?_
    · refine COk.blkQ fun Q91 qn91 qe91 qx91 qr91 => ?_
      refine COk.loopQ (ι := { q : ((List Ln) × Nat) // q.1 = x10.lines.drop q.2 ∧ cells_Get_l1 N a3 q.1 q.2 = some o14 }) (fun q => [(3, .int a3), (30, .sl 2 (List.map eLn x10.lines)), (31, .int (x10.lines.length : Int)), (32, .int (q.1.2 : Int))]) (fun q => []) (fun q => q.1.1.length) ⟨(x10.lines, 0), rfl, h15⟩ [] ⟨⟨rfl, (by repeat (first | exact trivial | exact rfl | (refine And.intro ?_ ?_))), rfl, rfl, trivial⟩, trivial, rfl, rfl⟩ (by intro q; rw [hn]; rfl) ?_
      rintro ⟨⟨rest_, k13⟩, hd17, h15⟩ Q92 qn92 qx92 qr92
      replace hd17 : rest_ = x10.lines.drop k13 := hd17
      rcases rest_ with _ | ⟨x19, rest16⟩
      · have hlt21 := restNil hd17
        replace h15 := (cells_Get_l1.eq_1 _ _ _).symm.trans h15
        refine COk.seqQ fun Q93 qn93 qx93 qr93 => ?_
        refine gor hn ?_
        refine qn93 _ _ ?_
        refine COk.seqQ fun Q94 qn94 qx94 qr94 => ?_
        refine goc hn ?_
        refine bselF hlt21 ?_
        refine goe hn ?_
        refine qx94 _ _ _ ?_
        refine qx92 _ _ _ ?_
        refine qe91 _ _ ?_
        refine qn90 _ _ ?_
        obtain rfl := Option.some.inj h15
        refine EOk.done ?_
        exact ⟨⟨_, rfl⟩, [], trivial, ⟨trivial, trivial, rfl, rfl⟩⟩
      · obtain ⟨hx20, hd2, hlt21⟩ := restCons hd17
        replace h15 := (cells_Get_l1.eq_2 _ _ _ _ _).symm.trans h15
        refine COk.seqQ fun Q95 qn95 qx95 qr95 => ?_
        refine gor hn ?_
        refine qn95 _ _ ?_
        refine COk.seqQ fun Q96 qn96 qx96 qr96 => ?_
        refine goc hn ?_
        refine bselT hlt21 ?_
        refine gok hn ?_
        refine qn96 _ _ ?_
        refine COk.seqQ fun Q97 qn97 qx97 qr97 => ?_
        refine COk.blkQ fun Q103 qn103 qe103 qx103 qr103 => ?_
        refine COk.seqQ fun Q104 qn104 qx104 qr104 => ?_
        refine gor hn ?_
        refine idxK hx20 ?_
        refine qn104 _ _ ?_
        refine COk.seqQ fun Q105 qn105 qx105 qr105 => ?_
        refine gor hn ?_
        refine qn105 _ _ ?_
        refine goc hn ?_
        refine bselM h15 (fun hb22 h15 => ?_) (fun hb22 h15 => ?_)
        · refine COk.seqQ fun Q107 qn107 qx107 qr107 => ?_
          refine gor hn ?_
          refine qn107 _ _ ?_
          refine got hn ?_
          refine qr103 _ _ ?_
          refine qr97 _ _ ?_
          refine qr92 _ _ ?_
          refine qr91 _ _ ?_
          refine qr90 _ _ ?_
          refine qr62 _ _ ?_
          obtain rfl := Option.some.inj h15
          obtain rfl := Option.some.inj h
          exact ⟨[], _, rfl, (by repeat (first | exact trivial | exact rfl | (refine And.intro ?_ ?_))), trivial, rfl, rfl, rfl, rfl, rfl⟩
        · refine gok hn ?_
          refine qn103 _ _ ?_
          refine qn97 _ _ ?_
          refine gor hn ?_
          refine Or.inl (And.intro (inrK hx20 hl12) ?_)
          refine qn92 _ _ ?_
          refine EOk.done ?_
          exact ⟨⟨(rest16, k13 + 1), hd2, h15⟩, [], by show rest16.length < rest16.length + 1; omega, ⟨⟨rfl, (by repeat (first | exact trivial | exact rfl | (refine And.intro ?_ ?_))), rfl, rfl, trivial⟩, trivial, rfl, rfl⟩⟩
    rintro ⟨⟨⟩, rfl⟩
    refine qn62 _ _ ?_
    refine COk.seqQ fun Q108 qn108 qx108 qr108 => ?_
    refine gor hn ?_
    refine qn108 _ _ ?_
    refine got hn ?_
    obtain rfl := Option.some.inj h
    exact ⟨[], _, rfl, (by repeat (first | exact trivial | exact rfl | (refine And.intro ?_ ?_))), trivial, rfl, rfl, rfl, rfl, rfl⟩

/- qcref1.Get -/
set_option maxRecDepth 100000 in
set_option maxHeartbeats 1000000 in
theorem qcref1_Get_ok (N : Nat) (a0 : (List Ce)) (a1 : St) (a2 : Int) (a3 : Int) (r : Int) (h : qcref1_Get N a0 a1 a2 a3 = some r) : Spec Try.prog 14 [] [.sl 6 (List.map eCe a0), .agg (eSt a1), .int a2, .int a3] (.int r) [] [] := by
  refine Spec.of tabOk Try.func14 rfl Try.ntmps14 (by kernel_rfl) rfl rfl rfl fun Γ hn => ?_
  unfold qcref1_Get at h
  refine COk.seqQ fun Q853 qn853 qx853 qr853 => ?_
  refine gor hn ?_
  refine qn853 _ _ ?_
  refine COk.seqQ fun Q854 qn854 qx854 qr854 => ?_
  refine COk.seqQ fun Q855 qn855 qx855 qr855 => ?_
  refine gor hn ?_
  refine lenM (fun hl1 => ?_)
  refine qn855 _ _ ?_
  obtain ⟨o3, h4, h⟩ := bindM h
  refine COk.joinR (ι := { s : Unit // o3 = Ctl.next s }) (fun s => []) (fun s => []) (fun Q1418 qn1418 qx1418 qr1418 => ?_) (by intro s; rw [hn]; rfl) ?_
  · refine COk.blkQ fun Q1419 qn1419 qe1419 qx1419 qr1419 => ?_
    refine COk.loopQ (ι := { q : ((List Ce) × Nat) // q.1 = a0.drop q.2 ∧ qcref1_Get_l1 N a1 a2 a3 q.1 q.2 = some o3 }) (fun q => [(2, .int a2), (3, .int a3), (5, .ptr 5 0), (13, .sl 6 (List.map eCe a0)), (14, .int (a0.length : Int)), (15, .int (q.1.2 : Int))]) (fun q => [(5, .box (eSt a1) 28)]) (fun q => q.1.1.length) ⟨(a0, 0), rfl, h4⟩ [] ⟨⟨rfl, rfl, rfl, (by repeat (first | exact trivial | exact rfl | (refine And.intro ?_ ?_))), rfl, rfl, trivial⟩, ⟨rfl, trivial⟩, rfl, rfl⟩ (by intro q; rw [hn]; rfl) ?_
    rintro ⟨⟨rest_, k2⟩, hd6, h4⟩ Q1420 qn1420 qx1420 qr1420
    replace hd6 : rest_ = a0.drop k2 := hd6
    rcases rest_ with _ | ⟨x8, rest5⟩
    · have hlt10 := restNil hd6
      replace h4 := (qcref1_Get_l1.eq_1 _ _ _ _ _).symm.trans h4
      refine COk.seqQ fun Q1421 qn1421 qx1421 qr1421 => ?_
      refine gor hn ?_
      refine qn1421 _ _ ?_
      refine COk.seqQ fun Q1422 qn1422 qx1422 qr1422 => ?_
      refine goc hn ?_
      refine bselF hlt10 ?_
      refine goe hn ?_
      refine qx1422 _ _ _ ?_
      refine qx1420 _ _ _ ?_
      refine qe1419 _ _ ?_
      refine qn1418 _ _ ?_
      obtain rfl := Option.some.inj h4
      refine EOk.done ?_
      exact ⟨⟨_, rfl⟩, [], trivial, ⟨trivial, trivial, rfl, rfl⟩⟩
    · obtain ⟨hx9, hd2, hlt10⟩ := restCons hd6
      replace h4 := (qcref1_Get_l1.eq_2 _ _ _ _ _ _ _).symm.trans h4
      refine COk.seqQ fun Q1423 qn1423 qx1423 qr1423 => ?_
      refine gor hn ?_
      refine qn1423 _ _ ?_
      refine COk.seqQ fun Q1424 qn1424 qx1424 qr1424 => ?_
      refine goc hn ?_
      refine bselT hlt10 ?_
      refine gok hn ?_
      refine qn1424 _ _ ?_
      refine COk.seqQ fun Q1425 qn1425 qx1425 qr1425 => ?_
      refine COk.blkQ fun Q1565 qn1565 qe1565 qx1565 qr1565 => ?_
      refine COk.seqQ fun Q1566 qn1566 qx1566 qr1566 => ?_
      refine gor hn ?_
      refine idxK hx9 ?_
      refine qn1566 _ _ ?_
      refine COk.seqQ fun Q1567 qn1567 qx1567 qr1567 => ?_
      refine gor hn ?_
      refine qn1567 _ _ ?_
      refine goc hn ?_
      refine bselM h4 (fun hb11 h4 => ?_) (fun hb11 h4 => ?_)
      · refine COk.seqQ fun Q1636 qn1636 qx1636 qr1636 => ?_
        refine COk.seqQ fun Q1637 qn1637 qx1637 qr1637 => ?_
        refine gor hn ?_
        refine lenM (fun hl12 => ?_)
        refine qn1637 _ _ ?_
        obtain ⟨o14, h15, h4⟩ := bindM h4
        refine COk.joinR (ι := { s : Unit // o14 = Ctl.next s }) (fun s => []) (fun s => []) (fun Q1683 qn1683 qx1683 qr1683 => ?_) (by intro s; rw [hn]; rfl) ?_
        · refine COk.blkQ fun Q1684 qn1684 qe1684 qx1684 qr1684 => ?_
          refine COk.loopQ (ι := { q : ((List Ln) × Nat) // q.1 = x8.lines.drop q.2 ∧ qcref1_Get_l2 N a2 a3 x8 q.1 q.2 = some o14 }) (fun q => [(2, .int a2), (3, .int a3), (10, .ptr 10 0), (24, .sl 2 (List.map eLn x8.lines)), (25, .int (x8.lines.length : Int)), (26, .int (q.1.2 : Int))]) (fun q => [(10, .box (eCe x8) 49)]) (fun q => q.1.1.length) ⟨(x8.lines, 0), rfl, h15⟩ [] ⟨⟨rfl, rfl, rfl, (by repeat (first | exact trivial | exact rfl | (refine And.intro ?_ ?_))), rfl, rfl, trivial⟩, ⟨rfl, trivial⟩, rfl, rfl⟩ (by intro q; rw [hn]; rfl) ?_
          rintro ⟨⟨rest_, k13⟩, hd17, h15⟩ Q1685 qn1685 qx1685 qr1685
          replace hd17 : rest_ = x8.lines.drop k13 := hd17
          rcases rest_ with _ | ⟨x19, rest16⟩
          · have hlt21 := restNil hd17
            replace h15 := (qcref1_Get_l2.eq_1 _ _ _ _ _).symm.trans h15
            refine COk.seqQ fun Q1686 qn1686 qx1686 qr1686 => ?_
            refine gor hn ?_
            refine qn1686 _ _ ?_
            refine COk.seqQ fun Q1687 qn1687 qx1687 qr1687 => ?_
            refine goc hn ?_
            refine bselF hlt21 ?_
            refine goe hn ?_
            refine qx1687 _ _ _ ?_
            refine qx1685 _ _ _ ?_
            refine qe1684 _ _ ?_
            refine qn1683 _ _ ?_
            obtain rfl := Option.some.inj h15
            refine EOk.done ?_
            exact ⟨⟨_, rfl⟩, [], trivial, ⟨trivial, trivial, rfl, rfl⟩⟩
          · obtain ⟨hx20, hd2, hlt21⟩ := restCons hd17
            replace h15 := (qcref1_Get_l2.eq_2 _ _ _ _ _ _ _).symm.trans h15
            refine COk.seqQ fun Q1688 qn1688 qx1688 qr1688 => ?_
            refine gor hn ?_
            refine qn1688 _ _ ?_
            refine COk.seqQ fun Q1689 qn1689 qx1689 qr1689 => ?_
            refine goc hn ?_
            refine bselT hlt21 ?_
            refine gok hn ?_
            refine qn1689 _ _ ?_
            refine COk.seqQ fun Q1690 qn1690 qx1690 qr1690 => ?_
            refine COk.blkQ fun Q1697 qn1697 qe1697 qx1697 qr1697 => ?_
            refine COk.seqQ fun Q1698 qn1698 qx1698 qr1698 => ?_
            refine gor hn ?_
            refine idxK hx20 ?_
            refine qn1698 _ _ ?_
            refine COk.seqQ fun Q1699 qn1699 qx1699 qr1699 => ?_
            obtain ⟨o24, h23, h15⟩ := bindM h15
            refine COk.joinR (ι := { s : Bool // o24 = s }) (fun s => [(2, .int a2), (3, .int a3), (10, .ptr 10 0), (12, .ptr 12 0), (24, .sl 2 (List.map eLn x8.lines)), (25, .int (x8.lines.length : Int)), (26, .int (k13 : Int)), (39, .bool s.1)]) (fun s => [(10, .box (eCe x8) 49), (12, .box (eLn x19) 86)]) (fun Q1700 qn1700 qx1700 qr1700 => ?_) (by intro s; rw [hn]; rfl) ?_
            · refine gor hn ?_
              refine bselM h23 (fun hb25 h23 => ?_) (fun hb25 h23 => ?_)
              · refine bselT hb25 ?_
                refine bselT hb25 ?_
                refine bselT hb25 ?_
                refine bselT hb25 ?_
                refine qn1700 _ _ ?_
                obtain rfl := Option.some.inj h23
                refine EOk.done ?_
                exact ⟨⟨_, rfl⟩, [], trivial, ⟨⟨rfl, rfl, rfl, rfl, (by repeat (first | exact trivial | exact rfl | (refine And.intro ?_ ?_))), rfl, rfl, rfl, trivial⟩, ⟨rfl, rfl, trivial⟩, rfl, rfl⟩⟩
              · refine bselF hb25 ?_
                refine bselF hb25 ?_
                refine bselF hb25 ?_
                refine bselF hb25 ?_
                refine qn1700 _ _ ?_
                obtain rfl := Option.some.inj h23
                refine EOk.done ?_
                exact ⟨⟨_, rfl⟩, [], trivial, ⟨⟨rfl, rfl, rfl, rfl, (by repeat (first | exact trivial | exact rfl | (refine And.intro ?_ ?_))), rfl, rfl, rfl, trivial⟩, ⟨rfl, rfl, trivial⟩, rfl, rfl⟩⟩
            rintro ⟨v22, hv_⟩
            replace hv_ := hv_.symm
            subst hv_
            refine qn1699 _ _ ?_
            refine goc hn ?_
            refine bselM h15 (fun hb26 h15 => ?_) (fun hb26 h15 => ?_)
            · refine COk.seqQ fun Q1702 qn1702 qx1702 qr1702 => ?_
              refine gor hn ?_
              refine qn1702 _ _ ?_
              refine got hn ?_
              refine qr1697 _ _ ?_
              refine qr1690 _ _ ?_
              refine qr1685 _ _ ?_
              refine qr1684 _ _ ?_
              refine qr1683 _ _ ?_
              refine qr1636 _ _ ?_
              refine qr1565 _ _ ?_
              refine qr1425 _ _ ?_
              refine qr1420 _ _ ?_
              refine qr1419 _ _ ?_
              refine qr1418 _ _ ?_
              refine qr854 _ _ ?_
              obtain rfl := Option.some.inj h15
              obtain rfl := Option.some.inj h4
              obtain rfl := Option.some.inj h
              exact ⟨[], _, rfl, (by repeat (first | exact trivial | exact rfl | (refine And.intro ?_ ?_))), trivial, rfl, rfl, rfl, rfl, rfl⟩
            · refine gok hn ?_
              refine qn1697 _ _ ?_
              refine qn1690 _ _ ?_
              refine gor hn ?_
              refine Or.inl (And.intro (inrK hx20 hl12) ?_)
              refine qn1685 _ _ ?_
              refine EOk.done ?_
              exact ⟨⟨(rest16, k13 + 1), hd2, h15⟩, [], by show rest16.length < rest16.length + 1; omega, ⟨⟨rfl, rfl, rfl, (by repeat (first | exact trivial | exact rfl | (refine And.intro ?_ ?_))), rfl, rfl, trivial⟩, ⟨rfl, trivial⟩, rfl, rfl⟩⟩
        rintro ⟨⟨⟩, rfl⟩
        refine qn1636 _ _ ?_
        refine COk.seqQ fun Q1703 qn1703 qx1703 qr1703 => ?_
        refine gor hn ?_
        refine qn1703 _ _ ?_
        refine got hn ?_
        refine qr1565 _ _ ?_
        refine qr1425 _ _ ?_
        refine qr1420 _ _ ?_
        refine qr1419 _ _ ?_
        refine qr1418 _ _ ?_
        refine qr854 _ _ ?_
        obtain rfl := Option.some.inj h4
        obtain rfl := Option.some.inj h
        exact ⟨[], _, rfl, (by repeat (first | exact trivial | exact rfl | (refine And.intro ?_ ?_))), trivial, rfl, rfl, rfl, rfl, rfl⟩
      · refine gok hn ?_
        refine qn1565 _ _ ?_
        refine qn1425 _ _ ?_
        refine gor hn ?_
        refine Or.inl (And.intro (inrK hx9 hl1) ?_)
        refine qn1420 _ _ ?_
        refine EOk.done ?_
        exact ⟨⟨(rest5, k2 + 1), hd2, h4⟩, [], by show rest5.length < rest5.length + 1; omega, ⟨⟨rfl, rfl, rfl, (by repeat (first | exact trivial | exact rfl | (refine And.intro ?_ ?_))), rfl, rfl, trivial⟩, ⟨rfl, trivial⟩, rfl, rfl⟩⟩
  rintro ⟨⟨⟩, rfl⟩
  refine qn854 _ _ ?_
  refine COk.seqQ fun Q1704 qn1704 qx1704 qr1704 => ?_
  refine gor hn ?_
  refine qn1704 _ _ ?_
  refine got hn ?_
  obtain rfl := Option.some.inj h
  exact ⟨[], _, rfl, (by repeat (first | exact trivial | exact rfl | (refine And.intro ?_ ?_))), trivial, rfl, rfl, rfl, rfl, rfl⟩

/- slices.Clone[[]api.Line,api.Line] -/
set_option maxRecDepth 100000 in
theorem slices_Clone_Ln_ok (N : Nat) (l : List Ln) (r : List Ln) (h : slices_Clone_Ln N l = some r) : Spec Try.prog 52 [] [.sl 2 (List.map eLn l)] (.own 0) [(0, .row 2 (List.map eLn r) 86)] [0] := by
  obtain ⟨hf, h⟩ := guardM h
  obtain rfl := Option.some.inj h
  refine Spec.of tabOk Try.func52 rfl Try.ntmps52 (by kernel_rfl) rfl rfl rfl fun Γ hn => ?_
  refine gos hn ?_
  refine COk.seq (COk.seq (COk.ops (goo hn 1 ?_)))
  refine OOk.gh (Gh.nil 3 rfl) ?_
  rintro ⟨b, hb⟩
  refine goo hn 1 (OOk.done ?_)
  (repeat (first | refine gos hn ?_ | refine gor hn ?_ | refine gob hn ?_ | refine goc hn ?_ | refine goe hn ?_ | refine gok hn ?_ | refine got hn ?_))
  refine bsel_b (fun hb1 => ?_) (fun hb1 => ?_)
  · have e : l = [] := by simpa using hb hb1
    subst e
    refine gos hn ?_
    refine COk.nilrow 2 5 2 86 rfl rfl rfl ?_
    (repeat (first | refine gos hn ?_ | refine gor hn ?_ | refine gob hn ?_ | refine goc hn ?_ | refine goe hn ?_ | refine gok hn ?_ | refine got hn ?_))
    exact ⟨[(0, 5)], _, rfl, rfl, ⟨rfl, trivial⟩, rfl, rfl, rfl, rfl, rfl⟩
  · (repeat (first | refine gos hn ?_ | refine gor hn ?_ | refine gob hn ?_ | refine goc hn ?_ | refine goe hn ?_ | refine gok hn ?_ | refine got hn ?_))
    refine Exists.intro [] (And.intro trivial ?_)
    refine And.intro (by have := Nat.le_of_ble_eq_true hf; simpa using this) ?_
    refine Exists.intro (List.map eLn l) (And.intro (leLs_refl _) ?_)
    (repeat (first | refine gos hn ?_ | refine gor hn ?_ | refine gob hn ?_ | refine goc hn ?_ | refine goe hn ?_ | refine gok hn ?_ | refine got hn ?_))
    exact ⟨[(0, 7)], _, rfl, rfl, ⟨rfl, trivial⟩, rfl, rfl, rfl, rfl, rfl⟩

/- cells.Own -/
set_option maxRecDepth 100000 in
set_option maxHeartbeats 1000000 in
theorem cells_Own_ok (N : Nat) (a0 : (List Ce)) (r : (List Ce)) (h : cells_Own N a0 = some r) : Spec Try.prog 18 [] [.sl 6 (List.map eCe a0)] (.own 0) [(0, .row 6 (List.map eCe r) 49)] [0] := by
  refine Spec.of tabOk Try.func18 rfl Try.ntmps18 (by kernel_rfl) rfl rfl rfl fun Γ hn => ?_
  unfold cells_Own at h
  refine COk.seqQ fun Q56 qn56 qx56 qr56 => ?_
  refine gor hn ?_
  refine qn56 _ _ ?_
  refine COk.seqQ fun Q57 qn57 qx57 qr57 => ?_
  refine gor hn ?_
  refine qn57 _ _ ?_
  refine COk.seqQ fun Q58 qn58 qx58 qr58 => ?_
  refine COk.seqQ fun Q59 qn59 qx59 qr59 => ?_
  refine gor hn ?_
  refine lenM (fun hl1 => ?_)
  refine qn59 _ _ ?_
  refine COk.nilrow 3 203 6 49 rfl rfl rfl ?_
  obtain ⟨o6, h7, h⟩ := bindM h
  refine COk.joinR (ι := { s : (List Ce) // o6 = s }) (fun s => [(3, .own 203)]) (fun s => [(203, .row 6 (List.map eCe s.1) 49)]) (fun Q96 qn96 qx96 qr96 => ?_) (by intro s; rw [hn]; rfl) ?_
  · refine COk.blkQ fun Q97 qn97 qe97 qx97 qr97 => ?_
    refine COk.loopQ (ι := { q : ((List Ce) × Nat × (List Ce)) // q.1 = a0.drop q.2.1 ∧ cells_Own_l1 N q.1 q.2.1 q.2.2 = some o6 }) (fun q => [(3, .own 203), (6, .sl 6 (List.map eCe a0)), (7, .int (a0.length : Int)), (8, .int (q.1.2.1 : Int))]) (fun q => [(203, .row 6 (List.map eCe q.1.2.2) 49)]) (fun q => q.1.1.length) ⟨(a0, 0, ([] : List Ce)), rfl, h7⟩ [] ⟨⟨rfl, (by repeat (first | exact trivial | exact rfl | (refine And.intro ?_ ?_))), rfl, rfl, trivial⟩, ⟨rfl, trivial⟩, rfl, rfl⟩ (by intro q; rw [hn]; rfl) ?_
    rintro ⟨⟨rest_, k2, v3⟩, hd9, h7⟩ Q98 qn98 qx98 qr98
    replace hd9 : rest_ = a0.drop k2 := hd9
    rcases rest_ with _ | ⟨x11, rest8⟩
    · have hlt13 := restNil hd9
      replace h7 := (cells_Own_l1.eq_1 _ _ _).symm.trans h7
      refine COk.seqQ fun Q99 qn99 qx99 qr99 => ?_
      refine gor hn ?_
      refine qn99 _ _ ?_
      refine COk.seqQ fun Q100 qn100 qx100 qr100 => ?_
      refine goc hn ?_
      refine bselF hlt13 ?_
      refine goe hn ?_
      refine qx100 _ _ _ ?_
      refine qx98 _ _ _ ?_
      refine qe97 _ _ ?_
      refine qn96 _ _ ?_
      obtain rfl := Option.some.inj h7
      refine EOk.done ?_
      exact ⟨⟨_, rfl⟩, [], trivial, ⟨⟨rfl, trivial⟩, ⟨rfl, trivial⟩, rfl, rfl⟩⟩
    · obtain ⟨hx12, hd2, hlt13⟩ := restCons hd9
      replace h7 := (cells_Own_l1.eq_2 _ _ _ _ _).symm.trans h7
      refine COk.seqQ fun Q101 qn101 qx101 qr101 => ?_
      refine gor hn ?_
      refine qn101 _ _ ?_
      refine COk.seqQ fun Q102 qn102 qx102 qr102 => ?_
      refine goc hn ?_
      refine bselT hlt13 ?_
      refine gok hn ?_
      refine qn102 _ _ ?_
      refine COk.seqQ fun Q103 qn103 qx103 qr103 => ?_
      refine COk.blkQ fun Q107 qn107 qe107 qx107 qr107 => ?_
      refine COk.seqQ fun Q108 qn108 qx108 qr108 => ?_
      refine gor hn ?_
      refine idxK hx12 ?_
      refine qn108 _ _ ?_
      refine COk.seqQ fun Q109 qn109 qx109 qr109 => ?_
      refine gor hn ?_
      obtain ⟨r14, hr15, h7⟩ := bindM h7
      show CallOk Try.prog _ _ _ _
      refine CallOk.as ((slices_Clone_Ln_ok N x11.lines r14 hr15).sw 0 14) (by repeat (first | exact trivial | exact rfl | (refine And.intro ?_ ?_))) trivial rfl ?_
      refine qn109 _ _ ?_
      refine gor hn ?_
      refine Exists.intro (List.map eCe [(⟨x11.site, x11.epoch, x11.many, r14⟩ : Ce)]) (And.intro (by repeat (first | exact trivial | exact rfl | (refine And.intro ?_ ?_))) ?_)
      obtain ⟨hg16, h7⟩ := guardM h7
      refine appM (l2 := [(⟨x11.site, x11.epoch, x11.many, r14⟩ : Ce)]) hg16 (leLs_refl _) ?_
      refine qn107 _ _ ?_
      refine qn103 _ _ ?_
      refine gor hn ?_
      refine Or.inl (And.intro (inrK hx12 hl1) ?_)
      refine qn98 _ _ ?_
      refine EOk.done ?_
      exact ⟨⟨(rest8, k2 + 1, (v3 ++ [(⟨x11.site, x11.epoch, x11.many, r14⟩ : Ce)])), hd2, h7⟩, [(203, 19)], by show rest8.length < rest8.length + 1; omega, ⟨⟨rfl, (by repeat (first | exact trivial | exact rfl | (refine And.intro ?_ ?_))), rfl, rfl, trivial⟩, ⟨rfl, trivial⟩, rfl, rfl⟩⟩
  rintro ⟨v5, hv_⟩
  replace hv_ := hv_.symm
  subst hv_
  refine qn58 _ _ ?_
  refine COk.seqQ fun Q110 qn110 qx110 qr110 => ?_
  refine gor hn ?_
  refine qn110 _ _ ?_
  refine got hn ?_
  obtain rfl := Option.some.inj h
  exact ⟨[(0, 203)], _, rfl, (by repeat (first | exact trivial | exact rfl | (refine And.intro ?_ ?_))), ⟨rfl, trivial⟩, rfl, rfl, rfl, rfl, rfl⟩

/- slices.IndexFunc[[]api.Line,api.Line] -/
set_option maxRecDepth 100000 in
set_option maxHeartbeats 1000000 in
theorem slices_IndexFunc_api_Line_api_Line_c1_ok (N : Nat) (a0 : (List Ln)) (g1 : Ln → Option Bool) {K1 : Nat} {c1_0 : List AV} (hg1 : ∀ x0_ y_, g1 x0_ = some y_ → Spec Try.prog K1 [] [.agg (eLn x0_), .fp c1_0] (.bool y_) [] []) (r : Int) (h : slices_IndexFunc_api_Line_api_Line_c1 N a0 g1 = some r) : Spec Try.prog 76 [] [.sl 2 (List.map eLn a0), .fn K1 [.fp c1_0]] (.int r) [] [] := by
  refine Spec.of tabOk Try.func76 rfl Try.ntmps76 (by kernel_rfl) rfl rfl rfl fun Γ hn => ?_
  unfold slices_IndexFunc_api_Line_api_Line_c1 at h
  refine COk.seqQ fun Q49 qn49 qx49 qr49 => ?_
  refine gor hn ?_
  refine qn49 _ _ ?_
  refine COk.seqQ fun Q50 qn50 qx50 qr50 => ?_
  refine COk.seqQ fun Q51 qn51 qx51 qr51 => ?_
  refine gor hn ?_
  refine lenM (fun hl1 => ?_)
  refine qn51 _ _ ?_
  obtain ⟨o3, h4, h⟩ := bindM h
  refine COk.joinR (ι := { s : Unit // o3 = Ctl.next s }) (fun s => []) (fun s => []) (fun Q78 qn78 qx78 qr78 => ?_) (by intro s; rw [hn]; rfl) ?_
  · refine COk.blkQ fun Q79 qn79 qe79 qx79 qr79 => ?_
    refine COk.loopQ (ι := { q : ((List Ln) × Nat) // q.1 = a0.drop q.2 ∧ slices_IndexFunc_api_Line_api_Line_c1_l1 N g1 q.1 q.2 = some o3 }) (fun q => [(0, .sl 2 (List.map eLn a0)), (1, .fn K1 [.fp c1_0]), (7, .int (a0.length : Int)), (8, .int (q.1.2 : Int))]) (fun q => []) (fun q => q.1.1.length) ⟨(a0, 0), rfl, h4⟩ [] ⟨⟨(by repeat (first | exact trivial | exact rfl | (refine And.intro ?_ ?_))), rfl, rfl, rfl, trivial⟩, trivial, rfl, rfl⟩ (by intro q; rw [hn]; rfl) ?_
    rintro ⟨⟨rest_, k2⟩, hd6, h4⟩ Q80 qn80 qx80 qr80
    replace hd6 : rest_ = a0.drop k2 := hd6
    rcases rest_ with _ | ⟨x8, rest5⟩
    · have hlt10 := restNil hd6
      replace h4 := (slices_IndexFunc_api_Line_api_Line_c1_l1.eq_1 _ _ _).symm.trans h4
      refine COk.seqQ fun Q81 qn81 qx81 qr81 => ?_
      refine gor hn ?_
      refine qn81 _ _ ?_
      refine COk.seqQ fun Q82 qn82 qx82 qr82 => ?_
      refine goc hn ?_
      refine bselF hlt10 ?_
      refine goe hn ?_
      refine qx82 _ _ _ ?_
      refine qx80 _ _ _ ?_
      refine qe79 _ _ ?_
      refine qn78 _ _ ?_
      obtain rfl := Option.some.inj h4
      refine EOk.done ?_
      exact ⟨⟨_, rfl⟩, [], trivial, ⟨trivial, trivial, rfl, rfl⟩⟩
    · obtain ⟨hx9, hd2, hlt10⟩ := restCons hd6
      replace h4 := (slices_IndexFunc_api_Line_api_Line_c1_l1.eq_2 _ _ _ _ _).symm.trans h4
      refine COk.seqQ fun Q83 qn83 qx83 qr83 => ?_
      refine gor hn ?_
      refine qn83 _ _ ?_
      refine COk.seqQ fun Q84 qn84 qx84 qr84 => ?_
      refine goc hn ?_
      refine bselT hlt10 ?_
      refine gok hn ?_
      refine qn84 _ _ ?_
      refine COk.seqQ fun Q85 qn85 qx85 qr85 => ?_
      refine COk.blkQ fun Q91 qn91 qe91 qx91 qr91 => ?_
      refine COk.seqQ fun Q92 qn92 qx92 qr92 => ?_
      refine gor hn ?_
      refine qn92 _ _ ?_
      refine COk.seqQ fun Q93 qn93 qx93 qr93 => ?_
      refine gor hn ?_
      refine idxK hx9 ?_
      obtain ⟨r11, hr12, h4⟩ := bindM h4
      show CallOk Try.prog _ _ _ _
      refine CallOk.as (hg1 _ _ hr12) (by repeat (first | exact trivial | exact rfl | (refine And.intro ?_ ?_))) trivial rfl ?_
      refine qn93 _ _ ?_
      refine goc hn ?_
      refine bselM h4 (fun hb13 h4 => ?_) (fun hb13 h4 => ?_)
      · refine COk.seqQ fun Q95 qn95 qx95 qr95 => ?_
        refine gor hn ?_
        refine qn95 _ _ ?_
        refine got hn ?_
        refine qr91 _ _ ?_
        refine qr85 _ _ ?_
        refine qr80 _ _ ?_
        refine qr79 _ _ ?_
        refine qr78 _ _ ?_
        refine qr50 _ _ ?_
        obtain rfl := Option.some.inj h4
        obtain rfl := Option.some.inj h
        exact ⟨[], _, rfl, (by repeat (first | exact trivial | exact rfl | (refine And.intro ?_ ?_))), trivial, rfl, rfl, rfl, rfl, rfl⟩
      · refine gok hn ?_
        refine qn91 _ _ ?_
        refine qn85 _ _ ?_
        refine gor hn ?_
        refine Or.inl (And.intro (inrK hx9 hl1) ?_)
        refine qn80 _ _ ?_
        refine EOk.done ?_
        exact ⟨⟨(rest5, k2 + 1), hd2, h4⟩, [], by show rest5.length < rest5.length + 1; omega, ⟨⟨(by repeat (first | exact trivial | exact rfl | (refine And.intro ?_ ?_))), rfl, rfl, rfl, trivial⟩, trivial, rfl, rfl⟩⟩
  rintro ⟨⟨⟩, rfl⟩
  refine qn50 _ _ ?_
  refine COk.seqQ fun Q96 qn96 qx96 qr96 => ?_
  refine gor hn ?_
  refine qn96 _ _ ?_
  refine got hn ?_
  obtain rfl := Option.some.inj h
  exact ⟨[], _, rfl, (by repeat (first | exact trivial | exact rfl | (refine And.intro ?_ ?_))), trivial, rfl, rfl, rfl, rfl, rfl⟩

/- slices.ContainsFunc[[]api.Line,api.Line] -/
set_option maxRecDepth 100000 in
set_option maxHeartbeats 1000000 in
theorem slices_ContainsFunc_api_Line_api_Line_c1_ok (N : Nat) (a0 : (List Ln)) (g1 : Ln → Option Bool) {K1 : Nat} {c1_0 : List AV} (hg1 : ∀ x0_ y_, g1 x0_ = some y_ → Spec Try.prog K1 [] [.agg (eLn x0_), .fp c1_0] (.bool y_) [] []) (r : Bool) (h : slices_ContainsFunc_api_Line_api_Line_c1 N a0 g1 = some r) : Spec Try.prog 49 [] [.sl 2 (List.map eLn a0), .fn K1 [.fp c1_0]] (.bool r) [] [] := by
  refine Spec.of tabOk Try.func49 rfl Try.ntmps49 (by kernel_rfl) rfl rfl rfl fun Γ hn => ?_
  unfold slices_ContainsFunc_api_Line_api_Line_c1 at h
  refine COk.seqQ fun Q3 qn3 qx3 qr3 => ?_
  refine gor hn ?_
  refine qn3 _ _ ?_
  refine COk.seqQ fun Q4 qn4 qx4 qr4 => ?_
  refine gor hn ?_
  obtain ⟨r1, hr2, h⟩ := bindM h
  show CallOk Try.prog _ _ _ _
  refine CallOk.as (slices_IndexFunc_api_Line_api_Line_c1_ok N a0 g1 hg1 r1 hr2) (by repeat (first | exact trivial | exact rfl | (refine And.intro ?_ ?_))) trivial rfl ?_
  refine qn4 _ _ ?_
  refine got hn ?_
  obtain rfl := Option.some.inj h
  exact ⟨[], _, rfl, (by repeat (first | exact trivial | exact rfl | (refine And.intro ?_ ?_))), trivial, rfl, rfl, rfl, rfl, rfl⟩

/- cells.Put$1 -/
set_option maxRecDepth 100000 in
set_option maxHeartbeats 1000000 in
theorem cells_Put_1_ok (N : Nat) (a0 : Ln) (b0 : Int) (r : Bool) (h : cells_Put_1 N a0 b0 = some r) : Spec Try.prog 50 [] [.agg (eLn a0), .fp [.int b0]] (.bool r) [] [] := by
  refine Spec.of tabOk Try.func50 rfl Try.ntmps50 (by kernel_rfl) rfl rfl rfl fun Γ hn => ?_
  unfold cells_Put_1 at h
  refine COk.seqQ fun Q3 qn3 qx3 qr3 => ?_
  refine gor hn ?_
  refine qn3 _ _ ?_
  refine COk.seqQ fun Q4 qn4 qx4 qr4 => ?_
  refine gor hn ?_
  refine qn4 _ _ ?_
  refine got hn ?_
  obtain rfl := Option.some.inj h
  exact ⟨[], _, rfl, (by repeat (first | exact trivial | exact rfl | (refine And.intro ?_ ?_))), trivial, rfl, rfl, rfl, rfl, rfl⟩

/- cells.Put -/
theorem clone_fitC (N : Nat) {l : List Ln} (h : Fit l.length 16) : slices_Clone_Ln N l = some l := by
  unfold slices_Clone_Ln
  rw [show Nat.ble (l.length * 16) 140737488355328 = true from Nat.ble_eq_true_of_le h]
  rfl
def preCe (t : Ce) : List AV := [.int t.site.cls, .str t.site.name, .int t.site.pos, .int t.epoch, .bool t.many]
def nCe (t : Ce) : List AV × List (List AV) := (preCe t, t.lines.map eLn)
set_option maxRecDepth 100000 in
theorem cells_Own_nst (N : Nat) (l : List Ce) (hf : Fit l.length 72) (hf2 : ∀ t ∈ l, Fit t.lines.length 16) : Spec Try.prog 18 [] [.sl 6 (l.map eCe)] (.nst 0) [(0, .nest 6 49 2 86 (l.map nCe))] [0] := by
  refine Spec.of tabOk Try.func18 rfl Try.ntmps18 (by kernel_rfl) rfl rfl rfl fun Γ hn => ?_
  (repeat (first | refine gos hn ?_ | refine gor hn ?_ | refine gob hn ?_ | refine goc hn ?_ | refine goe hn ?_ | refine gok hn ?_ | refine got hn ?_))
  refine lenM (fun hlen => ?_)
  (repeat (first | refine gos hn ?_ | refine gor hn ?_ | refine gob hn ?_ | refine goc hn ?_ | refine goe hn ?_ | refine gok hn ?_ | refine got hn ?_))
  refine COk.nilrow 3 3 6 49 rfl rfl rfl ?_
  refine COk.gh (Gh.pins0 100 2 86 rfl rfl) (fun _ => ?_)
  refine COk.loop (ι := {p : Nat × List (Hd × List AV × List (List AV)) // p.1 ≤ l.length ∧ p.2.map (·.2) = (l.take p.1).map nCe}) (fun p => [(6, .sl 6 (l.map eCe)), (7, .int l.length), (8, .int p.1.1), (3, .own 3)])
    (fun p => [(3, .row 6 (nOut p.1.2) 49), (100, .pins 2 (nIn p.1.2) 86)]) (fun p => l.length - p.1.1) ⟨(0, []), by omega, rfl⟩ [] ?_ ?_ ?_
  · exact ⟨⟨rfl, rfl, rfl, rfl, trivial⟩, ⟨rfl, rfl, trivial⟩, rfl, rfl⟩
  · intro k; rw [hn]; rfl
  rintro ⟨⟨k, z⟩, hk, hz⟩
  have hk : k ≤ l.length := hk
  have hz : z.map (·.2) = (l.take k).map nCe := hz
  (repeat (first | refine gos hn ?_ | refine gor hn ?_ | refine gob hn ?_ | refine goc hn ?_ | refine goe hn ?_ | refine gok hn ?_ | refine got hn ?_))
  refine bsel_dec (fun hlt => ?_) (fun hge => ?_)
  · have hlt : k < l.length := by have : (k : Int) < (l.length : Int) := hlt; omega
    (repeat (first | refine gos hn ?_ | refine gor hn ?_ | refine gob hn ?_ | refine goc hn ?_ | refine goe hn ?_ | refine gok hn ?_ | refine got hn ?_))
    refine And.intro (by omega) (And.intro (by simpa using hlt) ?_)
    intro cs hcs hrng
    obtain ⟨x, hx, rfl⟩ := nthm hcs
    have hx : l[k]? = some x := hx
    (repeat (first | refine gos hn ?_ | refine gor hn ?_ | refine gob hn ?_ | refine goc hn ?_ | refine goe hn ?_ | refine gok hn ?_ | refine got hn ?_))
    show CallOk Try.prog _ _ _ _; refine CallOk.as ((slices_Clone_Ln_ok N x.lines x.lines (clone_fitC N (hf2 x (List.mem_of_getElem? hx)))).sw 0 14) (by first | exact leAs_of_eq rfl | ((repeat (refine And.intro rfl ?_)); exact trivial)) (by (repeat (refine And.intro rfl ?_)); exact trivial) rfl ?_
    refine COk.gh (Gh.pinB 5 5 14 100 rfl rfl rfl rfl rfl rfl rfl) (fun h => ?_)
    (repeat (first | refine gos hn ?_ | refine gor hn ?_ | refine gob hn ?_ | refine goc hn ?_ | refine goe hn ?_ | refine gok hn ?_ | refine got hn ?_))
    refine Exists.intro [preCe x ++ [.con h.v]] (And.intro (by repeat (first | exact trivial | exact rfl | (refine And.intro ?_ ?_))) ?_)
    have hzl : (nOut z).length = k := by
      have := nLen hz
      rw [List.length_take] at this
      simp only [nOut, List.length_map]
      omega
    refine And.intro ?_ (Exists.intro (nOut (z ++ [(h, nCe x)])) (And.intro (by rw [nOut_snoc]; exact leLs_refl _) ?_))
    · show ((nOut z).length + 1) * 72 ≤ _
      rw [hzl]
      exact Nat.le_trans (Nat.mul_le_mul_right 72 hlt) hf
    (repeat (first | refine gos hn ?_ | refine gor hn ?_ | refine gob hn ?_ | refine goc hn ?_ | refine goe hn ?_ | refine gok hn ?_ | refine got hn ?_))
    refine Or.inl (And.intro (inr_succ hlt hlen) ?_)
    have hz2 : (z ++ [(h, nCe x)]).map (·.2) = (l.take (k + 1)).map nCe := by
      rw [take_snoc hx, List.map_append, List.map_append, show z.map (·.2) = (l.take k).map nCe from hz]
      rfl
    refine ⟨⟨(k + 1, z ++ [(h, nCe x)]), hlt, hz2⟩, [(3, 19)], by show l.length - (k + 1) < l.length - k; omega, ⟨⟨rfl, rfl, rfl, rfl, trivial⟩, ⟨rfl, ?_, trivial⟩, rfl, rfl⟩⟩
    · exact congrArg (fun q => some (Obj.pins 2 q 86)) (nIn_snoc z (h, nCe x)).symm
  · have e : k = l.length := by have : ¬ (k : Int) < (l.length : Int) := hge; omega
    subst e
    have hz : z.map (·.2) = l.map nCe := by
      have : z.map (·.2) = (l.take l.length).map nCe := hz
      rwa [List.take_length] at this
    refine goe hn ?_
    show COk Try.prog Γ _ _ _ _; refine COk.gh (Gh.close 3 3 100 101 z rfl rfl rfl rfl rfl hz rfl rfl rfl rfl rfl) ?_
    intro _
    (repeat (first | refine gos hn ?_ | refine gor hn ?_ | refine gob hn ?_ | refine goc hn ?_ | refine goe hn ?_ | refine gok hn ?_ | refine got hn ?_))
    exact ⟨[(0, 101)], _, rfl, rfl, ⟨rfl, trivial⟩, rfl, rfl, rfl, rfl, rfl⟩
theorem nFlat_Ce (l : List Ce) : nFlat 2 (l.map nCe) = l.map eCe := by simp [nFlat, nCe, preCe, eCe]
theorem ixC_eq (N : Nat) (s : St) : ∀ (l : List Ce) (k : Nat), slices_IndexFunc_api_Cell_api_Cell_c1_l1 N (fun x => cells_where_1 N x s) l k = some (match l.findIdx? (fun t => decide (t.site = s)) with | some i => .ret ((k + i : Nat) : Int) | none => .next ())
  | [], k => rfl
  | x :: l, k => by
    rw [slices_IndexFunc_api_Cell_api_Cell_c1_l1, ixf_cons, ixC_eq N s l (k + 1)]
    unfold cells_where_1
    rw [show eqAs (eSt x.site) (eSt s) = decide (x.site = s) from eqSt x.site s]
    by_cases e : x.site = s
    · simp [e]
    · cases l.findIdx? (fun t => decide (t.site = s)) <;> simp [e]; omega
theorem cells_where_eq (N : Nat) (l : List Ce) (s : St) : cells_where N l s = some (ixf (fun t => decide (t.site = s)) l) := by
  unfold cells_where slices_IndexFunc_api_Cell_api_Cell_c1 ixf
  rw [ixC_eq]
  cases l.findIdx? (fun t => decide (t.site = s)) <;> simp
theorem ixP_eq (N : Nat) (c : Int) : ∀ (l : List Ln) (k : Nat), slices_IndexFunc_api_Line_api_Line_c1_l1 N (fun x => cells_Put_1 N x c) l k = some (match l.findIdx? (fun t => decide (t.cls = c)) with | some i => .ret ((k + i : Nat) : Int) | none => .next ())
  | [], k => rfl
  | x :: l, k => by
    rw [slices_IndexFunc_api_Line_api_Line_c1_l1, ixf_cons, ixP_eq N c l (k + 1)]
    unfold cells_Put_1
    by_cases e : x.cls = c
    · simp [e]
    · cases l.findIdx? (fun t => decide (t.cls = c)) <;> simp [e]; omega
theorem hasP (N : Nat) (c : Int) (l : List Ln) : slices_ContainsFunc_api_Line_api_Line_c1 N l (fun x => cells_Put_1 N x c) = some (decide (0 ≤ ixf (fun t => decide (t.cls = c)) l)) := by
  unfold slices_ContainsFunc_api_Line_api_Line_c1 slices_IndexFunc_api_Line_api_Line_c1 ixf
  rw [ixP_eq]
  cases l.findIdx? (fun t => decide (t.cls = c)) <;> simp
set_option maxRecDepth 100000 in
set_option maxHeartbeats 1000000 in
theorem cells_Put_ok (N : Nat) (l : List Ce) (s : St) (e : Int) (c : Int) (f : Int) (r : List Ce) (h : cells_Put N l s e c f = some r) : Spec Try.prog 16 [] [.sl 6 (l.map eCe), .agg (eSt s), .int e, .int c, .int f] (.own 0) [(0, .row 6 (r.map eCe) 49)] [0] := by
  unfold cells_Put at h
  obtain ⟨hg, h⟩ := guardM h
  obtain rfl := Option.some.inj h
  rw [Bool.and_eq_true, List.all_eq_true] at hg
  have hf : Fit (l.length + 1) 72 := Nat.le_of_ble_eq_true hg.1
  have hf2 : ∀ t ∈ l, Fit (t.lines.length + 1) 16 := fun t ht => Nat.le_of_ble_eq_true (hg.2 t ht)
  clear h hg
  refine Spec.of tabOk Try.func16 rfl Try.ntmps16 (by kernel_rfl) rfl rfl rfl fun Γ hn => ?_
  refine gos hn ?_
  show COk Try.prog Γ _ _ _ _; refine COk.gh (Gh.fzBox 6 6 rfl rfl rfl) ?_
  intro _
  show COk Try.prog Γ _ _ _ _; refine COk.gh (Gh.fzBox 8 8 rfl rfl rfl) ?_
  intro _
  (repeat (first | refine gos hn ?_ | refine gor hn ?_ | refine gob hn ?_ | refine goc hn ?_ | refine goe hn ?_ | refine gok hn ?_ | refine got hn ?_))
  show CallOk Try.prog _ _ _ _; refine CallOk.as ((cells_Own_nst N l (Nat.le_trans (Nat.mul_le_mul_right _ (Nat.le_succ _)) hf) (fun t ht => Nat.le_trans (Nat.mul_le_mul_right _ (Nat.le_succ _)) (hf2 t ht))).sw 0 15) (by first | exact leAs_of_eq rfl | ((repeat (refine And.intro rfl ?_)); exact trivial)) (by (repeat (refine And.intro rfl ?_)); exact trivial) rfl ?_
  (repeat (first | refine gos hn ?_ | refine gor hn ?_ | refine gob hn ?_ | refine goc hn ?_ | refine goe hn ?_ | refine gok hn ?_ | refine got hn ?_))
  show CallOk Try.prog _ _ _ _
  refine CallOk.lend (cells_where_ok N l s _ (cells_where_eq N l s)) ?_ rfl ?_
  · show leAs [.sl 6 (nFlat 2 (l.map nCe)), .agg (eSt s)] _
    rw [nFlat_Ce]
    exact leAs_of_eq rfl
  show COk Try.prog Γ _ _ _ _; refine COk.gh (Gh.open 11 15 102 103 rfl rfl rfl rfl rfl rfl (fun _ => rfl)) ?_
  rintro ⟨z, hz⟩
  refine COk.cut (ι := { q : Nat × Ce × Hd × List (Hd × List AV × List (List AV)) // q.2.2.2[q.1]? = some (q.2.2.1, nCe q.2.1) ∧ q.2.2.2.map (·.2) = (ixd (fun t : Ce => decide (t.site = s)) ⟨s, e, false, []⟩ l).1.map nCe ∧ (ixd (fun t : Ce => decide (t.site = s)) ⟨s, e, false, []⟩ l).1[q.1]? = some q.2.1 ∧ (ixd (fun t : Ce => decide (t.site = s)) ⟨s, e, false, []⟩ l).2 = q.1 ∧ Fit (q.2.1.lines.length + 1) 16 ∧ q.2.1.site = s })
    (fun q => [(11, .own 102), (12, .int q.1.1), (2, .int e), (4, .int f), (6, .fp (eSt s)), (8, .fp [.int c])]) (fun q => [(102, .row 6 (nOut q.1.2.2.2) 49), (103, .pins 2 ((nIn q.1.2.2.2).eraseIdx q.1.1) 86), (104, .row 2 (q.1.2.1.lines.map eLn) 86), (105, .eqv 104 q.1.2.2.1.v)]) ?_ ?_ ?_
  · (repeat (first | refine gos hn ?_ | refine gor hn ?_ | refine gob hn ?_ | refine goc hn ?_ | refine goe hn ?_ | refine gok hn ?_ | refine got hn ?_))
    rcases ixf_way (fun t : Ce => decide (t.site = s)) l with ⟨k, x, e1, e2, e3, e4⟩ | ⟨e1, e2⟩
    · refine bsel_dec (fun hlt => ?_) (fun hge => ?_)
      · rw [e1] at hlt; omega
      · obtain ⟨h, hz1⟩ := map_at hz e2
        have hp : (nIn z).Perm ((h, x.lines.map eLn) :: (nIn z).eraseIdx k) := by
          have hk : (nIn z)[k]? = some (h, x.lines.map eLn) := by simp [nIn, hz1, nCe]
          obtain ⟨hl, hv⟩ := List.getElem?_eq_some_iff.1 hk
          rw [← hv]
          exact (List.getElem_cons_eraseIdx_perm' hl).symm
        show COk Try.prog Γ _ _ _ _; refine COk.gh (Gh.unpin 103 104 105 rfl hp rfl rfl rfl rfl rfl) ?_
        intro _
        refine gok hn ?_
        have ex : ixd (fun t : Ce => decide (t.site = s)) ⟨s, e, false, []⟩ l = (l, k) := by unfold ixd; rw [e4]
        refine ⟨⟨(k, x, h, z), hz1, by rw [ex]; exact hz, by rw [ex]; exact e2, by rw [ex], hf2 x (List.mem_of_getElem? e2), of_decide_eq_true e3⟩, [], ⟨⟨rfl, congrArg AV.int e1, rfl, rfl, rfl, rfl, trivial⟩, ⟨rfl, rfl, rfl, rfl, trivial⟩, rfl, rfl⟩⟩
    · refine bsel_dec (fun hlt => ?_) (fun hge => ?_)
      · (repeat (first | refine gos hn ?_ | refine gor hn ?_ | refine gob hn ?_ | refine goc hn ?_ | refine goe hn ?_ | refine gok hn ?_ | refine got hn ?_))
        rintro _ rfl hlen
        refine COk.ops (goo hn 7 ?_)
        refine Exists.intro [[.int s.cls, .str s.name, .int s.pos, .int e, .bool false, .nilsl]] (And.intro (by repeat (first | exact trivial | exact rfl | (refine And.intro ?_ ?_))) ?_)
        refine And.intro ?_ (Exists.intro (nOut z ++ [[AV.int s.cls, .str s.name, .int s.pos, .int e, .bool false, .nilsl]]) (And.intro (leLs_refl _) ?_))
        · show ((nOut z).length + 1) * 72 ≤ _
          rw [show (nOut z).length = l.length by simp only [nOut, List.length_map]; exact nLen hz]
          exact hf
        have hat : (nOut z ++ [[AV.int s.cls, .str s.name, .int s.pos, .int e, .bool false, .nilsl]])[l.length]? = some [AV.int s.cls, .str s.name, .int s.pos, .int e, .bool false, .nilsl] := by
          rw [List.getElem?_append_right (by simp [nOut, nLen hz])]
          simp [nOut, nLen hz]
        show OOk Try.prog Γ _ _ _ _ _
        refine OOk.gh (Gh.unnil (r := 28) (i := l.length) (off := 5) (j := 104) (j' := 105) (isz := 2) (ie := 86) rfl hat rfl rfl rfl rfl rfl rfl) ?_
        intro _
        refine OOk.done ?_
        have ex : ixd (fun t : Ce => decide (t.site = s)) ⟨s, e, false, []⟩ l = (l ++ [⟨s, e, false, []⟩], l.length) := by unfold ixd; rw [e2]
        have hlz := nLen hz
        refine ⟨⟨(l.length, ⟨s, e, false, []⟩, ⟨none, 0, 0⟩, z ++ [(⟨none, 0, 0⟩, nCe ⟨s, e, false, []⟩)]), ?_, ?_, ?_, ?_, ?_, rfl⟩, [(102, 28)], ⟨⟨rfl, ?_, rfl, rfl, rfl, rfl, trivial⟩, ⟨?_, ?_, rfl, rfl, trivial⟩, rfl, rfl⟩⟩
        · show (z ++ [_])[l.length]? = _
          rw [List.getElem?_append_right (by omega)]
          simp [hlz]
        · rw [ex]
          show List.map (fun p : Hd × List AV × List (List AV) => p.2) (z ++ [_]) = List.map nCe (l ++ [_])
          rw [List.map_append, List.map_append, hz]
          rfl
        · rw [ex]
          show (l ++ [_])[l.length]? = _
          rw [List.getElem?_append_right (Nat.le_refl _)]
          simp
        · rw [ex]
        · show (0 + 1) * 16 ≤ _
          decide
        · exact congrArg AV.int (by simp [nOut, hlz])
        · refine congrArg (fun q => some (Obj.row 6 q 49)) ?_
          show (nOut z ++ [_]).set l.length _ = nOut (z ++ [_])
          rw [nOut_snoc, List.set_append_right _ _ (by simp [nOut, hlz])]
          simp [nOut, hlz, nCe, preCe]
        · refine congrArg (fun q => some (Obj.pins 2 q 86)) ?_
          show nIn z = (nIn (z ++ [_])).eraseIdx l.length
          rw [nIn_snoc, List.eraseIdx_append_of_length_le (by simp [nIn, hlz])]
          simp [nIn, hlz]
      · rw [e1] at hge; omega
  · intro k; rw [hn]; rfl
  rintro ⟨⟨k, x, h, z⟩, hq1, hq2, hq3, hq4, hq5, hq6⟩
  have hq1 : z[k]? = some (h, nCe x) := hq1
  have hq6 : x.site = s := hq6
  have hkz : k < (nOut z).length := by
    have := (List.getElem?_eq_some_iff.1 hq1).1
    simpa [nOut] using this
  have hat : (nOut z)[k]? = some (preCe x ++ [.con h.v]) := by simp [nOut, hq1, nCe]
  (repeat (first | refine gos hn ?_ | refine gor hn ?_ | refine gob hn ?_ | refine goc hn ?_ | refine goe hn ?_ | refine gok hn ?_ | refine got hn ?_))
  refine And.intro (by omega) (And.intro (by simpa using hkz) ?_)
  refine And.intro (by simpa using hkz) (fun cs hcs => ?_)
  have hcs : (nOut z)[k]? = some cs := hcs
  obtain rfl : cs = preCe x ++ [.con h.v] := Option.some.inj (hcs.symm.trans hat)
  show COk Try.prog Γ _ _ _ _
  refine COk.joinR (ι := { q : Ce × Hd // q.1 = freshC e x ∧ Fit (q.1.lines.length + 1) 16 })
    (fun q => [(11, .own 102), (12, .int k), (4, .int f), (8, .fp [.int c])]) (fun q => [(102, .row 6 ((nOut z).set k (preCe q.1.1 ++ [.con q.1.2.v])) 49), (103, .pins 2 ((nIn z).eraseIdx k) 86), (104, .row 2 (q.1.1.lines.map eLn) 86), (105, .eqv 104 q.1.2.v)]) (fun Q2 q2n q2x q2r => ?_) (by intro k; rw [hn]; rfl) ?_
  · (repeat (first | refine gos hn ?_ | refine gor hn ?_ | refine gob hn ?_ | refine goc hn ?_ | refine goe hn ?_ | refine gok hn ?_ | refine got hn ?_))
    refine bsel_b (fun hb => ?_) (fun hb => ?_)
    · have hne : ¬ x.epoch = e := by simpa using hb
      have hfr : freshC e x = ⟨x.site, e, false, []⟩ := if_neg hne
      refine gor hn ?_
      refine And.intro (by omega) (And.intro (by simpa using hkz) ?_)
      refine And.intro (by simpa using hkz) (fun cs hcs => ?_)
      have hcs : (nOut z)[k]? = some cs := hcs
      obtain rfl : cs = preCe x ++ [.con h.v] := Option.some.inj (hcs.symm.trans hat)
      refine Exists.intro ((nOut z).set k [.int s.cls, .str s.name, .int s.pos, .int e, .bool false, .nilsl]) (And.intro (leLs_refl _) ?_)
      have hat2 : ((nOut z).set k [AV.int s.cls, .str s.name, .int s.pos, .int e, .bool false, .nilsl])[k]? = some [AV.int s.cls, .str s.name, .int s.pos, .int e, .bool false, .nilsl] := by rw [List.getElem?_set, if_pos rfl, if_pos hkz]
      refine q2n _ _ ?_
      refine EOk.gh (Gh.unnil (r := 102) (i := k) (off := 5) (j := 106) (j' := 107) (isz := 2) (ie := 86) rfl hat2 rfl rfl rfl rfl rfl rfl) (fun _ => ?_)
      refine EOk.done ?_
      refine ⟨⟨(freshC e x, ⟨none, 0, 0⟩), rfl, by show Fit ((freshC e x).lines.length + 1) 16; rw [hfr]; show (0 + 1) * 16 ≤ _; decide⟩, [(104, 106), (105, 107)], trivial, ⟨⟨rfl, rfl, rfl, rfl, trivial⟩, ⟨?_, rfl, ?_, rfl, trivial⟩, rfl, rfl⟩⟩
      · refine congrArg (fun q => some (Obj.row 6 q 49)) ?_
        show ((nOut z).set k [AV.int s.cls, .str s.name, .int s.pos, .int e, .bool false, .nilsl]).set k [AV.int s.cls, .str s.name, .int s.pos, .int e, .bool false, .con (⟨none, 0, 0⟩ : Hd).v] = (nOut z).set k (preCe (freshC e x) ++ [.con (⟨none, 0, 0⟩ : Hd).v])
        rw [List.set_set, hfr, ← hq6]
        rfl
      · refine congrArg (fun q => some (Obj.row 2 q 86)) ?_
        show [] = List.map eLn (freshC e x).lines
        rw [hfr]
        rfl
    · have he : x.epoch = e := by simpa using hb
      have hfr : freshC e x = x := if_pos he
      refine gok hn ?_
      refine q2n _ _ ?_
      refine EOk.done ?_
      refine ⟨⟨(freshC e x, h), rfl, by show Fit ((freshC e x).lines.length + 1) 16; rw [hfr]; exact hq5⟩, [], trivial, ⟨⟨rfl, rfl, rfl, rfl, trivial⟩, ⟨?_, rfl, ?_, rfl, trivial⟩, rfl, rfl⟩⟩
      · refine congrArg (fun q => some (Obj.row 6 q 49)) ?_
        show nOut z = (nOut z).set k (preCe (freshC e x) ++ [.con h.v])
        rw [hfr]
        exact (set_same_ hat).symm
      · refine congrArg (fun q => some (Obj.row 2 q 86)) ?_
        show List.map eLn x.lines = List.map eLn (freshC e x).lines
        rw [hfr]
  rintro ⟨⟨y, g⟩, hy, hg5⟩
  have hy : y = freshC e x := hy
  have hg5 : Fit (y.lines.length + 1) 16 := hg5
  have hatg : ((nOut z).set k (preCe y ++ [.con g.v]))[k]? = some (preCe y ++ [.con g.v]) := by rw [List.getElem?_set, if_pos rfl, if_pos hkz]
  (repeat (first | refine gos hn ?_ | refine gor hn ?_ | refine gob hn ?_ | refine goc hn ?_ | refine goe hn ?_ | refine gok hn ?_ | refine got hn ?_))
  refine And.intro (by omega) (And.intro (by simpa using hkz) ?_)
  show COk Try.prog Γ _ _ _ _
  refine COk.seqQ fun Q4 q4n q4x q4r => ?_
  refine COk.joinR (ι := Hd) (fun q => [(11, .own 102), (12, .int k)]) (fun q => [(102, .row 6 ((nOut z).set k (preCe (lineC c f y) ++ [.con q.v])) 49), (103, .pins 2 ((nIn z).eraseIdx k) 86), (104, .row 2 ((lineC c f y).lines.map eLn) 86), (105, .eqv 104 q.v)]) (fun Q3 q3n q3x q3r => ?_) (by intro k; rw [hn]; rfl) ?_
  · (repeat (first | refine gos hn ?_ | refine gor hn ?_ | refine gob hn ?_ | refine goc hn ?_ | refine goe hn ?_ | refine gok hn ?_ | refine got hn ?_))
    refine And.intro (by simpa using hkz) (fun cs hcs => ?_)
    have hcs : ((nOut z).set k (preCe y ++ [.con g.v]))[k]? = some cs := hcs
    obtain rfl : cs = preCe y ++ [.con g.v] := Option.some.inj (hcs.symm.trans hatg)
    refine bsel_b (fun hm => ?_) (fun hm => ?_)
    · repeat (refine bselT hm ?_)
      have hl : lineC c f y = y := if_pos (Or.inl hm)
      (repeat (first | refine gos hn ?_ | refine gor hn ?_ | refine gob hn ?_ | refine goc hn ?_ | refine goe hn ?_ | refine gok hn ?_ | refine got hn ?_))
      refine q3n _ _ ?_
      refine EOk.done ?_
      refine ⟨g, [], trivial, ⟨⟨rfl, rfl, trivial⟩, ⟨?_, rfl, ?_, rfl, trivial⟩, rfl, rfl⟩⟩
      · refine congrArg (fun q => some (Obj.row 6 q 49)) ?_
        show (nOut z).set k (preCe y ++ [.con g.v]) = (nOut z).set k (preCe (lineC c f y) ++ [.con g.v])
        rw [hl]
      · refine congrArg (fun q => some (Obj.row 2 q 86)) ?_
        show List.map eLn y.lines = List.map eLn (lineC c f y).lines
        rw [hl]
    · refine bselF hm ?_
      refine bselF hm ?_
      refine bselF hm ?_
      refine And.intro (by simpa using hkz) (fun cs hcs => ?_)
      have hcs : ((nOut z).set k (preCe y ++ [.con g.v]))[k]? = some cs := hcs
      obtain rfl : cs = preCe y ++ [.con g.v] := Option.some.inj (hcs.symm.trans hatg)
      refine And.intro rfl ?_
      refine bselF hm ?_
      refine bselF hm ?_
      show CallOk Try.prog _ _ _ _
      refine CallOk.lend (slices_ContainsFunc_api_Line_api_Line_c1_ok N y.lines (fun x => cells_Put_1 N x c) (fun x v hv => cells_Put_1_ok N x c v hv) _ (hasP N c y.lines)) (leAs_of_eq rfl) rfl ?_
      refine bselF hm ?_
      (repeat (first | refine gos hn ?_ | refine gor hn ?_ | refine gob hn ?_ | refine goc hn ?_ | refine goe hn ?_ | refine gok hn ?_ | refine got hn ?_))
      refine bsel_b (fun hc => ?_) (fun hc => ?_)
      · have hl : lineC c f y = y := if_pos (Or.inr (of_decide_eq_true hc))
        (repeat (first | refine gos hn ?_ | refine gor hn ?_ | refine gob hn ?_ | refine goc hn ?_ | refine goe hn ?_ | refine gok hn ?_ | refine got hn ?_))
        refine q3n _ _ ?_
        refine EOk.done ?_
        refine ⟨g, [], trivial, ⟨⟨rfl, rfl, trivial⟩, ⟨?_, rfl, ?_, rfl, trivial⟩, rfl, rfl⟩⟩
        · refine congrArg (fun q => some (Obj.row 6 q 49)) ?_
          show (nOut z).set k (preCe y ++ [.con g.v]) = (nOut z).set k (preCe (lineC c f y) ++ [.con g.v])
          rw [hl]
        · refine congrArg (fun q => some (Obj.row 2 q 86)) ?_
          show List.map eLn y.lines = List.map eLn (lineC c f y).lines
          rw [hl]
      · have hno : ¬ (y.many = true ∨ 0 ≤ ixf (fun t : Ln => decide (t.cls = c)) y.lines) := by
          rintro (h | h)
          · rw [h] at hm; cases hm
          · exact absurd h (of_decide_eq_false hc)
        (repeat (first | refine gos hn ?_ | refine gor hn ?_ | refine gob hn ?_ | refine goc hn ?_ | refine goe hn ?_ | refine gok hn ?_ | refine got hn ?_))
        refine And.intro (by simpa using hkz) (fun cs hcs => ?_)
        have hcs : ((nOut z).set k (preCe y ++ [.con g.v]))[k]? = some cs := hcs
        obtain rfl : cs = preCe y ++ [.con g.v] := Option.some.inj (hcs.symm.trans hatg)
        refine And.intro rfl ?_
        rintro _ rfl hlen2
        (repeat (first | refine gos hn ?_ | refine gor hn ?_ | refine gob hn ?_ | refine goc hn ?_ | refine goe hn ?_ | refine gok hn ?_ | refine got hn ?_))
        refine bsel_dec (fun hlt => ?_) (fun hge => ?_)
        · have h3 : (3 : Int) ≤ (y.lines.length : Int) := by simpa using hlt
          have hl : lineC c f y = ⟨y.site, y.epoch, true, []⟩ := by unfold lineC; rw [if_neg hno, if_pos h3]
          (repeat (first | refine gos hn ?_ | refine gor hn ?_ | refine gob hn ?_ | refine goc hn ?_ | refine goe hn ?_ | refine gok hn ?_ | refine got hn ?_))
          refine And.intro (by simpa using hkz) (fun cs hcs => ?_)
          have hcs : ((nOut z).set k (preCe y ++ [.con g.v]))[k]? = some cs := hcs
          obtain rfl : cs = preCe y ++ [.con g.v] := Option.some.inj (hcs.symm.trans hatg)
          refine Exists.intro ((nOut z).set k [.int y.site.cls, .str y.site.name, .int y.site.pos, .int y.epoch, .bool true, .con g.v]) (And.intro (by show leLs (((nOut z).set k (preCe y ++ [.con g.v])).set k [AV.int y.site.cls, .str y.site.name, .int y.site.pos, .int y.epoch, .bool true, .con g.v]) _; rw [List.set_set]; exact leLs_refl _) ?_)
          have hat5 : ((nOut z).set k [AV.int y.site.cls, .str y.site.name, .int y.site.pos, .int y.epoch, .bool true, .con g.v])[k]? = some [AV.int y.site.cls, .str y.site.name, .int y.site.pos, .int y.epoch, .bool true, .con g.v] := by rw [List.getElem?_set, if_pos rfl, if_pos hkz]
          refine And.intro (by simpa using hkz) (fun cs hcs => ?_)
          have hcs : ((nOut z).set k [AV.int y.site.cls, .str y.site.name, .int y.site.pos, .int y.epoch, .bool true, .con g.v])[k]? = some cs := hcs
          obtain rfl : cs = [AV.int y.site.cls, .str y.site.name, .int y.site.pos, .int y.epoch, .bool true, .con g.v] := Option.some.inj (hcs.symm.trans hat5)
          refine Exists.intro ((nOut z).set k [.int y.site.cls, .str y.site.name, .int y.site.pos, .int y.epoch, .bool true, .nilsl]) (And.intro (by show leLs (((nOut z).set k [AV.int y.site.cls, .str y.site.name, .int y.site.pos, .int y.epoch, .bool true, .con g.v]).set k [AV.int y.site.cls, .str y.site.name, .int y.site.pos, .int y.epoch, .bool true, .nilsl]) _; rw [List.set_set]; exact leLs_refl _) ?_)
          have hat6 : ((nOut z).set k [AV.int y.site.cls, .str y.site.name, .int y.site.pos, .int y.epoch, .bool true, .nilsl])[k]? = some [AV.int y.site.cls, .str y.site.name, .int y.site.pos, .int y.epoch, .bool true, .nilsl] := by rw [List.getElem?_set, if_pos rfl, if_pos hkz]
          (repeat (first | refine gos hn ?_ | refine gor hn ?_ | refine gob hn ?_ | refine goc hn ?_ | refine goe hn ?_ | refine gok hn ?_ | refine got hn ?_))
          refine q3n _ _ ?_
          refine EOk.gh (Gh.unnil (r := 102) (i := k) (off := 5) (j := 106) (j' := 107) (isz := 2) (ie := 86) rfl hat6 rfl rfl rfl rfl rfl rfl) (fun _ => ?_)
          refine EOk.done ?_
          refine ⟨⟨none, 0, 0⟩, [(104, 106), (105, 107)], trivial, ⟨⟨rfl, rfl, trivial⟩, ⟨?_, rfl, ?_, rfl, trivial⟩, rfl, rfl⟩⟩
          · refine congrArg (fun q => some (Obj.row 6 q 49)) ?_
            show ((nOut z).set k [AV.int y.site.cls, .str y.site.name, .int y.site.pos, .int y.epoch, .bool true, .nilsl]).set k [AV.int y.site.cls, .str y.site.name, .int y.site.pos, .int y.epoch, .bool true, .con (⟨none, 0, 0⟩ : Hd).v] = (nOut z).set k (preCe (lineC c f y) ++ [.con (⟨none, 0, 0⟩ : Hd).v])
            rw [List.set_set, hl]
            rfl
          · refine congrArg (fun q => some (Obj.row 2 q 86)) ?_
            show [] = List.map eLn (lineC c f y).lines
            rw [hl]
            rfl
        · have h3 : ¬ (3 : Int) ≤ (y.lines.length : Int) := by simpa using hge
          have hl : lineC c f y = ⟨y.site, y.epoch, y.many, y.lines ++ [⟨c, f⟩]⟩ := by unfold lineC; rw [if_neg hno, if_neg h3]
          refine god hn (by kernel_rfl) ?_
          refine And.intro (by simpa using hkz) (fun cs hcs => ?_)
          have hcs : ((nOut z).set k (preCe y ++ [.con g.v]))[k]? = some cs := hcs
          obtain rfl : cs = preCe y ++ [.con g.v] := Option.some.inj (hcs.symm.trans hatg)
          refine And.intro rfl ?_
          refine Exists.intro (List.map eLn [⟨c, f⟩]) (And.intro (by repeat (first | exact trivial | exact rfl | (refine And.intro ?_ ?_))) ?_)
          refine And.intro ?_ (Exists.intro (List.map eLn (y.lines ++ [⟨c, f⟩])) (And.intro (leLs_map (leLs_refl _)) ?_))
          · show ((y.lines.map eLn).length + 1) * 16 ≤ _
            rw [List.length_map]
            exact hg5
          refine And.intro (by simpa using hkz) (And.intro ?_ ?_)
          · intro cs hcs
            have hcs : ((nOut z).set k (preCe y ++ [.con g.v]))[k]? = some cs := hcs
            obtain rfl : cs = preCe y ++ [.con g.v] := Option.some.inj (hcs.symm.trans hatg)
            show 5 < 6
            omega
          refine q3n _ _ ?_
          refine EOk.gh (Gh.rowx 102 106 rfl rfl rfl (fun _ => rfl) rfl) (fun g' => ?_)
          refine EOk.done ?_
          refine ⟨g', [(104, 54), (105, 106)], trivial, ⟨⟨rfl, rfl, trivial⟩, ⟨?_, rfl, ?_, rfl, trivial⟩, rfl, rfl⟩⟩
          · refine congrArg (fun q => some (Obj.row 6 q 49)) ?_
            show patch ((nOut z).set k (preCe y ++ [.con g.v])) k 5 (.con g'.v) = (nOut z).set k (preCe (lineC c f y) ++ [.con g'.v])
            unfold patch
            rw [hatg, hl]
            show ((nOut z).set k _).set k _ = _
            rw [List.set_set]
            rfl
          · refine congrArg (fun q => some (Obj.row 2 q 86)) ?_
            show List.map eLn (y.lines ++ [⟨c, f⟩]) = List.map eLn (lineC c f y).lines
            rw [hl]
  intro q
  refine q4n _ _ ?_
  have hat4 : ((nOut z).set k (preCe (lineC c f y) ++ [.con q.v]))[k]? = some (preCe (lineC c f y) ++ [.con q.v]) := by rw [List.getElem?_set, if_pos rfl, if_pos hkz]
  have hzk : k < z.length := (List.getElem?_eq_some_iff.1 hq1).1
  have hp : (nIn (z.set k (q, preCe (lineC c f y), (lineC c f y).lines.map eLn))).Perm ((q, (lineC c f y).lines.map eLn) :: (nIn z).eraseIdx k) := by
    rw [show nIn (z.set k (q, preCe (lineC c f y), (lineC c f y).lines.map eLn)) = (nIn z).set k (q, (lineC c f y).lines.map eLn) by simp [nIn, List.map_set]]
    exact set_perm (by simpa [nIn] using hzk)
  show COk Try.prog Γ _ _ _ _
  refine COk.gh (Gh.repin (h := q) (ls := (lineC c f y).lines.map eLn) (l' := nIn (z.set k (q, preCe (lineC c f y), (lineC c f y).lines.map eLn))) 104 105 103 rfl rfl rfl hp rfl rfl rfl) (fun _ => ?_)
  have hz2 : (z.set k (q, preCe (lineC c f y), (lineC c f y).lines.map eLn)).map (·.2) = ((ixd (fun t : Ce => decide (t.site = s)) ⟨s, e, false, []⟩ l).1.modify (ixd (fun t : Ce => decide (t.site = s)) ⟨s, e, false, []⟩ l).2 (putC e c f)).map nCe := by
    have h2 : (ixd (fun t : Ce => decide (t.site = s)) ⟨s, e, false, []⟩ l).2 = k := hq4
    have h3 : z.map (·.2) = (ixd (fun t : Ce => decide (t.site = s)) ⟨s, e, false, []⟩ l).1.map nCe := hq2
    have h4 : (ixd (fun t : Ce => decide (t.site = s)) ⟨s, e, false, []⟩ l).1[k]? = some x := hq3
    rw [h2, set_modify h4, List.map_set, List.map_set, h3]
    unfold putC
    rw [← hy]
    rfl
  refine COk.gh (Gh.close 11 102 103 108 (z.set k (q, preCe (lineC c f y), (lineC c f y).lines.map eLn)) rfl rfl rfl (by show (nOut z).set k _ = _; simp [nOut, List.map_set]) rfl hz2 rfl rfl rfl rfl rfl) (fun _ => ?_)
  show COk Try.prog Γ _ _ _ _
  refine COk.flat 11 108 109 rfl rfl rfl rfl rfl ?_
  rw [nFlat_Ce]
  (repeat (first | refine gos hn ?_ | refine gor hn ?_ | refine gob hn ?_ | refine goc hn ?_ | refine goe hn ?_ | refine gok hn ?_ | refine got hn ?_))
  exact ⟨[(0, 109)], _, rfl, rfl, ⟨rfl, trivial⟩, rfl, rfl, rfl, rfl, rfl⟩
end Go.Proofs.Ytoceeiamcfdnlaa
