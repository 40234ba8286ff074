/- Walks after the mirrors. Printed by mir.py. -/
import Derived.Test.YtoceeiamcfdnlaaWk3
namespace Go.Proofs.Ytoceeiamcfdnlaa
open Go.RowKit
set_option linter.unusedVariables false
/- qcref5.Sites -/
set_option maxRecDepth 100000 in
set_option maxHeartbeats 1000000 in
theorem qcref5_Sites_ok (N : Nat) (a0 : Wd) (a1 : (List Tl)) (a2 : Int) (a3 : Int) (r : (List Int)) (h : qcref5_Sites N a0 a1 a2 a3 = some r) : Spec Try.prog 63 [] [.agg (eWd a0), .sl 4 (List.map eTl a1), .int a2, .int a3] (.own 0) [(0, .row 1 (List.map eInt r) 3)] [0] := by
  refine Spec.of tabOk Try.func63 rfl Try.ntmps63 (by kernel_rfl) rfl rfl rfl fun Γ hn => ?_
  unfold qcref5_Sites at h
  refine COk.seqQ fun Q92 qn92 qx92 qr92 => ?_
  refine gor hn ?_
  refine qn92 _ _ ?_
  refine COk.seqQ fun Q93 qn93 qx93 qr93 => ?_
  refine gor hn ?_
  refine qn93 _ _ ?_
  refine COk.seqQ fun Q94 qn94 qx94 qr94 => ?_
  refine COk.seqQ fun Q95 qn95 qx95 qr95 => ?_
  obtain ⟨o3, h2, h⟩ := bindM h
  refine COk.joinR (ι := { s : Bool // o3 = s }) (fun s => [(1, .sl 4 (List.map eTl a1)), (2, .int a2), (3, .int a3), (4, .ptr 4 0), (9, .nilsl), (37, .bool s.1)]) (fun s => [(4, .box (eWd a0) 26)]) (fun Q96 qn96 qx96 qr96 => ?_) (by intro s; rw [hn]; rfl) ?_
  · refine gor hn ?_
    refine bselM h2 (fun hb4 h2 => ?_) (fun hb4 h2 => ?_)
    · refine bselT hb4 ?_
      refine bselT hb4 ?_
      refine bselT hb4 ?_
      refine bselT hb4 ?_
      refine bselT hb4 ?_
      refine qn96 _ _ ?_
      obtain rfl := Option.some.inj h2
      refine EOk.done ?_
      exact ⟨⟨_, rfl⟩, [], trivial, ⟨⟨(by repeat (first | exact trivial | exact rfl | (refine And.intro ?_ ?_))), rfl, rfl, rfl, (by repeat (first | exact trivial | exact rfl | (refine And.intro ?_ ?_))), rfl, trivial⟩, ⟨rfl, trivial⟩, rfl, rfl⟩⟩
    · refine bselF hb4 ?_
      refine bselF hb4 ?_
      refine bselF hb4 ?_
      refine lenM (fun hl5 => ?_)
      refine bselF hb4 ?_
      refine bselF hb4 ?_
      refine bselM h2 (fun hb6 h2 => ?_) (fun hb6 h2 => ?_)
      · refine bselT hb6 ?_
        refine bselT hb6 ?_
        refine qn96 _ _ ?_
        obtain rfl := Option.some.inj h2
        refine EOk.done ?_
        exact ⟨⟨_, rfl⟩, [], trivial, ⟨⟨(by repeat (first | exact trivial | exact rfl | (refine And.intro ?_ ?_))), rfl, rfl, rfl, (by repeat (first | exact trivial | exact rfl | (refine And.intro ?_ ?_))), rfl, trivial⟩, ⟨rfl, trivial⟩, rfl, rfl⟩⟩
      · refine bselF hb6 ?_
        refine bselF hb6 ?_
        refine bselM h2 (fun hb7 h2 => ?_) (fun hb7 h2 => ?_)
        · refine bselT hb7 ?_
          refine bselT hb7 ?_
          refine bselT hb7 ?_
          refine bselT hb7 ?_
          refine bselT hb7 ?_
          refine bselT hb7 ?_
          refine bselT hb7 ?_
          refine bselT hb7 ?_
          refine bselT hb7 ?_
          refine qn96 _ _ ?_
          obtain rfl := Option.some.inj h2
          refine EOk.done ?_
          exact ⟨⟨_, rfl⟩, [], trivial, ⟨⟨(by repeat (first | exact trivial | exact rfl | (refine And.intro ?_ ?_))), rfl, rfl, rfl, (by repeat (first | exact trivial | exact rfl | (refine And.intro ?_ ?_))), rfl, trivial⟩, ⟨rfl, trivial⟩, rfl, rfl⟩⟩
        · refine bselF hb7 ?_
          refine bselF hb7 ?_
          refine bselF hb7 ?_
          refine bselF hb7 ?_
          obtain ⟨x8, hx9, h2⟩ := bindM h2
          refine idxM hx9 ?_
          refine bselF hb7 ?_
          refine bselF hb7 ?_
          refine bselF hb7 ?_
          refine lenM (fun hl10 => ?_)
          refine bselF hb7 ?_
          refine bselF hb7 ?_
          refine qn96 _ _ ?_
          obtain rfl := Option.some.inj h2
          refine EOk.done ?_
          exact ⟨⟨_, rfl⟩, [], trivial, ⟨⟨(by repeat (first | exact trivial | exact rfl | (refine And.intro ?_ ?_))), rfl, rfl, rfl, (by repeat (first | exact trivial | exact rfl | (refine And.intro ?_ ?_))), rfl, trivial⟩, ⟨rfl, trivial⟩, rfl, rfl⟩⟩
  rintro ⟨v1, hv_⟩
  replace hv_ := hv_.symm
  subst hv_
  refine qn95 _ _ ?_
  refine goc hn ?_
  refine bselM h (fun hb11 h => ?_) (fun hb11 h => ?_)
  · refine COk.seqQ fun Q98 qn98 qx98 qr98 => ?_
    refine gor hn ?_
    refine qn98 _ _ ?_
    refine COk.nilrow 8 208 1 3 rfl rfl rfl ?_
    refine got hn ?_
    refine qr94 _ _ ?_
    obtain rfl := Option.some.inj h
    exact ⟨[(0, 208)], _, rfl, (by repeat (first | exact trivial | exact rfl | (refine And.intro ?_ ?_))), ⟨rfl, trivial⟩, rfl, rfl, rfl, rfl, rfl⟩
  · refine gok hn ?_
    refine qn94 _ _ ?_
    refine COk.seqQ fun Q99 qn99 qx99 qr99 => ?_
    refine gor hn ?_
    obtain ⟨x12, hx13, h⟩ := bindM h
    refine idxM hx13 ?_
    obtain ⟨x14, hx15, h⟩ := bindM h
    refine idxM hx15 ?_
    refine qn99 _ _ ?_
    refine COk.seqQ fun Q100 qn100 qx100 qr100 => ?_
    refine COk.seqQ fun Q101 qn101 qx101 qr101 => ?_
    refine gor hn ?_
    refine lenM (fun hl16 => ?_)
    refine qn101 _ _ ?_
    refine COk.nilrow 9 209 1 3 rfl rfl rfl ?_
    obtain ⟨o21, h22, h⟩ := bindM h
    refine COk.joinR (ι := { s : (List Int) // o21 = s }) (fun s => [(9, .own 209)]) (fun s => [(209, .row 1 (List.map eInt s.1) 3)]) (fun Q162 qn162 qx162 qr162 => ?_) (by intro s; rw [hn]; rfl) ?_
    · refine COk.blkQ fun Q163 qn163 qe163 qx163 qr163 => ?_
      refine COk.loopQ (ι := { q : ((List Ins) × Nat × (List Int)) // q.1 = x14.code.drop q.2.1 ∧ qcref5_Sites_l1 N a0 a1 a2 x14 q.1 q.2.1 q.2.2 = some o21 }) (fun q => [(1, .sl 4 (List.map eTl a1)), (2, .int a2), (4, .ptr 4 0), (9, .own 209), (10, .ptr 10 0), (49, .sl 5 (List.map eIns x14.code)), (50, .int (x14.code.length : Int)), (51, .int (q.1.2.1 : Int))]) (fun q => [(4, .box (eWd a0) 26), (10, .box (eMe x14) 64), (209, .row 1 (List.map eInt q.1.2.2) 3)]) (fun q => q.1.1.length) ⟨(x14.code, 0, ([] : List Int)), rfl, h22⟩ [] ⟨⟨(by repeat (first | exact trivial | exact rfl | (refine And.intro ?_ ?_))), rfl, rfl, rfl, rfl, (by repeat (first | exact trivial | exact rfl | (refine And.intro ?_ ?_))), rfl, rfl, trivial⟩, ⟨rfl, rfl, rfl, trivial⟩, rfl, rfl⟩ (by intro q; rw [hn]; rfl) ?_
      rintro ⟨⟨rest_, k17, v18⟩, hd24, h22⟩ Q164 qn164 qx164 qr164
      replace hd24 : rest_ = x14.code.drop k17 := hd24
      rcases rest_ with _ | ⟨x26, rest23⟩
      · have hlt28 := restNil hd24
        replace h22 := (qcref5_Sites_l1.eq_1 _ _ _ _ _ _ _).symm.trans h22
        refine COk.seqQ fun Q165 qn165 qx165 qr165 => ?_
        refine gor hn ?_
        refine qn165 _ _ ?_
        refine COk.seqQ fun Q166 qn166 qx166 qr166 => ?_
        refine goc hn ?_
        refine bselF hlt28 ?_
        refine goe hn ?_
        refine qx166 _ _ _ ?_
        refine qx164 _ _ _ ?_
        refine qe163 _ _ ?_
        refine qn162 _ _ ?_
        obtain rfl := Option.some.inj h22
        refine EOk.done ?_
        exact ⟨⟨_, rfl⟩, [], trivial, ⟨⟨rfl, trivial⟩, ⟨rfl, trivial⟩, rfl, rfl⟩⟩
      · obtain ⟨hx27, hd2, hlt28⟩ := restCons hd24
        replace h22 := (qcref5_Sites_l1.eq_2 _ _ _ _ _ _ _ _ _).symm.trans h22
        refine COk.seqQ fun Q167 qn167 qx167 qr167 => ?_
        refine gor hn ?_
        refine qn167 _ _ ?_
        refine COk.seqQ fun Q168 qn168 qx168 qr168 => ?_
        refine goc hn ?_
        refine bselT hlt28 ?_
        refine gok hn ?_
        refine qn168 _ _ ?_
        refine COk.seqQ fun Q169 qn169 qx169 qr169 => ?_
        refine COk.blkQ fun Q176 qn176 qe176 qx176 qr176 => ?_
        refine COk.seqQ fun Q177 qn177 qx177 qr177 => ?_
        refine gor hn ?_
        refine idxK hx27 ?_
        refine qn177 _ _ ?_
        refine COk.seqQ fun Q178 qn178 qx178 qr178 => ?_
        refine gor hn ?_
        refine qn178 _ _ ?_
        refine COk.seqQ fun Q179 qn179 qx179 qr179 => ?_
        refine COk.seqQ fun Q180 qn180 qx180 qr180 => ?_
        refine gor hn ?_
        refine qn180 _ _ ?_
        obtain ⟨o31, h30, h22⟩ := bindM h22
        refine COk.joinR (ι := { s : Int // o31 = s }) (fun s => [(1, .sl 4 (List.map eTl a1)), (2, .int a2), (4, .ptr 4 0), (9, .own 209), (10, .ptr 10 0), (13, .int s.1), (49, .sl 5 (List.map eIns x14.code)), (50, .int (x14.code.length : Int)), (51, .int (k17 : Int))]) (fun s => [(4, .box (eWd a0) 26), (10, .box (eMe x14) 64), (209, .row 1 (List.map eInt v18) 3)]) (fun Q181 qn181 qx181 qr181 => ?_) (by intro s; rw [hn]; rfl) ?_
        · refine goc hn ?_
          refine bselM h30 (fun hb32 h30 => ?_) (fun hb32 h30 => ?_)
          · refine COk.sub (ts2 := [(1, .sl 4 (List.map eTl a1)), (2, .int a2), (4, .ptr 4 0), (9, .own 209), (10, .ptr 10 0), (11, .int (k17 : Int)), (12, .ptr 12 0), (49, .sl 5 (List.map eIns x14.code)), (50, .int (x14.code.length : Int)), (51, .int (k17 : Int))]) (os2 := [(4, .box (eWd a0) 26), (10, .box (eMe x14) 64), (12, .box (eIns x26) 62), (209, .row 1 (List.map eInt v18) 3)]) [] ⟨⟨(by repeat (first | exact trivial | exact rfl | (refine And.intro ?_ ?_))), rfl, rfl, rfl, rfl, rfl, rfl, (by repeat (first | exact trivial | exact rfl | (refine And.intro ?_ ?_))), rfl, rfl, trivial⟩, ⟨rfl, rfl, rfl, rfl, trivial⟩, rfl, rfl⟩ (by rw [hn]; rfl) ?_
            refine gor hn ?_
            obtain ⟨r33, hr34, h30⟩ := bindM h30
            show CallOk Try.prog _ _ _ _
            refine CallOk.as (qcref5_Site_ok N a0 a1 (⟨a2, x14.name, (k17 : Int)⟩ : St) x26.name x26.a r33 hr34) (by repeat (first | exact trivial | exact rfl | (refine And.intro ?_ ?_))) trivial rfl ?_
            refine qn181 _ _ ?_
            obtain rfl := Option.some.inj h30
            refine EOk.done ?_
            exact ⟨⟨_, rfl⟩, [], trivial, ⟨⟨(by repeat (first | exact trivial | exact rfl | (refine And.intro ?_ ?_))), rfl, rfl, rfl, rfl, rfl, (by repeat (first | exact trivial | exact rfl | (refine And.intro ?_ ?_))), rfl, rfl, trivial⟩, ⟨rfl, rfl, rfl, trivial⟩, rfl, rfl⟩⟩
          · refine gok hn ?_
            refine qn181 _ _ ?_
            obtain rfl := Option.some.inj h30
            refine EOk.done ?_
            exact ⟨⟨_, rfl⟩, [], trivial, ⟨⟨(by repeat (first | exact trivial | exact rfl | (refine And.intro ?_ ?_))), rfl, rfl, rfl, rfl, rfl, (by repeat (first | exact trivial | exact rfl | (refine And.intro ?_ ?_))), rfl, rfl, trivial⟩, ⟨rfl, rfl, rfl, trivial⟩, rfl, rfl⟩⟩
        rintro ⟨v29, hv_⟩
        replace hv_ := hv_.symm
        subst hv_
        refine qn179 _ _ ?_
        refine gor hn ?_
        refine Exists.intro (List.map eInt [v29]) (And.intro (by repeat (first | exact trivial | exact rfl | (refine And.intro ?_ ?_))) ?_)
        obtain ⟨hg35, h22⟩ := guardM h22
        refine appM (l2 := [v29]) hg35 (leLs_refl _) ?_
        refine qn176 _ _ ?_
        refine qn169 _ _ ?_
        refine gor hn ?_
        refine Or.inl (And.intro (inrK hx27 hl16) ?_)
        refine qn164 _ _ ?_
        refine EOk.done ?_
        exact ⟨⟨(rest23, k17 + 1, (v18 ++ [v29])), hd2, h22⟩, [(209, 74)], by show rest23.length < rest23.length + 1; omega, ⟨⟨(by repeat (first | exact trivial | exact rfl | (refine And.intro ?_ ?_))), rfl, rfl, rfl, rfl, (by repeat (first | exact trivial | exact rfl | (refine And.intro ?_ ?_))), rfl, rfl, trivial⟩, ⟨rfl, rfl, rfl, trivial⟩, rfl, rfl⟩⟩
    rintro ⟨v20, hv_⟩
    replace hv_ := hv_.symm
    subst hv_
    refine qn100 _ _ ?_
    refine COk.seqQ fun Q182 qn182 qx182 qr182 => ?_
    refine gor hn ?_
    refine qn182 _ _ ?_
    refine got hn ?_
    obtain rfl := Option.some.inj h
    exact ⟨[(0, 209)], _, rfl, (by repeat (first | exact trivial | exact rfl | (refine And.intro ?_ ?_))), ⟨rfl, trivial⟩, rfl, rfl, rfl, rfl, rfl⟩

/- qcref5.All -/
set_option maxRecDepth 100000 in
set_option maxHeartbeats 1000000 in
theorem qcref5_All_ok (N : Nat) (a0 : Wd) (a1 : (List Tl)) (r : (List Fs)) (h : qcref5_All N a0 a1 = some r) : Spec Try.prog 30 [] [.agg (eWd a0), .sl 4 (List.map eTl a1)] (.own 0) [(0, .row 5 (List.map eFs r) 53)] [0] := by
  refine Spec.of tabOk Try.func30 rfl Try.ntmps30 (by kernel_rfl) rfl rfl rfl fun Γ hn => ?_
  unfold qcref5_All at h
  refine COk.seqQ fun Q527 qn527 qx527 qr527 => ?_
  refine gor hn ?_
  refine qn527 _ _ ?_
  refine COk.seqQ fun Q528 qn528 qx528 qr528 => ?_
  refine gor hn ?_
  refine qn528 _ _ ?_
  refine COk.seqQ fun Q529 qn529 qx529 qr529 => ?_
  refine COk.seqQ fun Q530 qn530 qx530 qr530 => ?_
  refine gor hn ?_
  refine lenM (fun hl1 => ?_)
  refine qn530 _ _ ?_
  refine COk.nilrow 5 205 5 53 rfl rfl rfl ?_
  obtain ⟨o6, h7, h⟩ := bindM h
  refine COk.joinR (ι := { s : (List Fs) // o6 = s }) (fun s => [(5, .own 205)]) (fun s => [(205, .row 5 (List.map eFs s.1) 53)]) (fun Q944 qn944 qx944 qr944 => ?_) (by intro s; rw [hn]; rfl) ?_
  · refine COk.blkQ fun Q945 qn945 qe945 qx945 qr945 => ?_
    refine COk.loopQ (ι := { q : ((List Cl) × Nat × (List Fs)) // q.1 = a0.classes.drop q.2.1 ∧ qcref5_All_l1 N a0 a1 q.1 q.2.1 q.2.2 = some o6 }) (fun q => [(1, .sl 4 (List.map eTl a1)), (2, .ptr 2 0), (5, .own 205), (12, .sl 4 (List.map eCl a0.classes)), (13, .int (a0.classes.length : Int)), (14, .int (q.1.2.1 : Int))]) (fun q => [(2, .box (eWd a0) 26), (205, .row 5 (List.map eFs q.1.2.2) 53)]) (fun q => q.1.1.length) ⟨(a0.classes, 0, ([] : List Fs)), rfl, h7⟩ [] ⟨⟨(by repeat (first | exact trivial | exact rfl | (refine And.intro ?_ ?_))), rfl, rfl, (by repeat (first | exact trivial | exact rfl | (refine And.intro ?_ ?_))), rfl, rfl, trivial⟩, ⟨rfl, rfl, trivial⟩, rfl, rfl⟩ (by intro q; rw [hn]; rfl) ?_
    rintro ⟨⟨rest_, k2, v3⟩, hd9, h7⟩ Q946 qn946 qx946 qr946
    replace hd9 : rest_ = a0.classes.drop k2 := hd9
    rcases rest_ with _ | ⟨x11, rest8⟩
    · have hlt13 := restNil hd9
      replace h7 := (qcref5_All_l1.eq_1 _ _ _ _ _).symm.trans h7
      refine COk.seqQ fun Q947 qn947 qx947 qr947 => ?_
      refine gor hn ?_
      refine qn947 _ _ ?_
      refine COk.seqQ fun Q948 qn948 qx948 qr948 => ?_
      refine goc hn ?_
      refine bselF hlt13 ?_
      refine goe hn ?_
      refine qx948 _ _ _ ?_
      refine qx946 _ _ _ ?_
      refine qe945 _ _ ?_
      refine qn944 _ _ ?_
      obtain rfl := Option.some.inj h7
      refine EOk.done ?_
      exact ⟨⟨_, rfl⟩, [], trivial, ⟨⟨rfl, trivial⟩, ⟨rfl, trivial⟩, rfl, rfl⟩⟩
    · obtain ⟨hx12, hd2, hlt13⟩ := restCons hd9
      replace h7 := (qcref5_All_l1.eq_2 _ _ _ _ _ _ _).symm.trans h7
      refine COk.seqQ fun Q949 qn949 qx949 qr949 => ?_
      refine gor hn ?_
      refine qn949 _ _ ?_
      refine COk.seqQ fun Q950 qn950 qx950 qr950 => ?_
      refine goc hn ?_
      refine bselT hlt13 ?_
      refine gok hn ?_
      refine qn950 _ _ ?_
      refine COk.seqQ fun Q951 qn951 qx951 qr951 => ?_
      refine COk.blkQ fun Q1012 qn1012 qe1012 qx1012 qr1012 => ?_
      refine COk.seqQ fun Q1013 qn1013 qx1013 qr1013 => ?_
      refine gor hn ?_
      refine idxK hx12 ?_
      refine qn1013 _ _ ?_
      refine COk.seqQ fun Q1014 qn1014 qx1014 qr1014 => ?_
      refine gor hn ?_
      refine lenM (fun hl14 => ?_)
      refine qn1014 _ _ ?_
      obtain ⟨o19, h20, h7⟩ := bindM h7
      refine COk.joinR (ι := { s : (List Fs) // o19 = s }) (fun s => [(1, .sl 4 (List.map eTl a1)), (2, .ptr 2 0), (5, .own 205), (12, .sl 4 (List.map eCl a0.classes)), (13, .int (a0.classes.length : Int)), (14, .int (k2 : Int))]) (fun s => [(2, .box (eWd a0) 26), (205, .row 5 (List.map eFs s.1) 53)]) (fun Q1039 qn1039 qx1039 qr1039 => ?_) (by intro s; rw [hn]; rfl) ?_
      · refine COk.blkQ fun Q1040 qn1040 qe1040 qx1040 qr1040 => ?_
        refine COk.loopQ (ι := { q : ((List Me) × Nat × (List Fs)) // q.1 = x11.methods.drop q.2.1 ∧ qcref5_All_l2 N a0 a1 k2 q.1 q.2.1 q.2.2 = some o19 }) (fun q => [(1, .sl 4 (List.map eTl a1)), (2, .ptr 2 0), (5, .own 205), (6, .int (k2 : Int)), (12, .sl 4 (List.map eCl a0.classes)), (13, .int (a0.classes.length : Int)), (14, .int (k2 : Int)), (21, .int (x11.methods.length : Int)), (22, .int (q.1.2.1 : Int))]) (fun q => [(2, .box (eWd a0) 26), (205, .row 5 (List.map eFs q.1.2.2) 53)]) (fun q => q.1.1.length) ⟨(x11.methods, 0, v3), rfl, h20⟩ [] ⟨⟨(by repeat (first | exact trivial | exact rfl | (refine And.intro ?_ ?_))), rfl, rfl, rfl, (by repeat (first | exact trivial | exact rfl | (refine And.intro ?_ ?_))), rfl, rfl, rfl, rfl, trivial⟩, ⟨rfl, rfl, trivial⟩, rfl, rfl⟩ (by intro q; rw [hn]; rfl) ?_
        rintro ⟨⟨rest_, k15, v16⟩, hd22, h20⟩ Q1041 qn1041 qx1041 qr1041
        replace hd22 : rest_ = x11.methods.drop k15 := hd22
        rcases rest_ with _ | ⟨x24, rest21⟩
        · have hlt26 := restNil hd22
          replace h20 := (qcref5_All_l2.eq_1 _ _ _ _ _ _).symm.trans h20
          refine COk.seqQ fun Q1042 qn1042 qx1042 qr1042 => ?_
          refine gor hn ?_
          refine qn1042 _ _ ?_
          refine COk.seqQ fun Q1043 qn1043 qx1043 qr1043 => ?_
          refine goc hn ?_
          refine bselF hlt26 ?_
          refine goe hn ?_
          refine qx1043 _ _ _ ?_
          refine qx1041 _ _ _ ?_
          refine qe1040 _ _ ?_
          refine qn1039 _ _ ?_
          obtain rfl := Option.some.inj h20
          refine EOk.done ?_
          exact ⟨⟨_, rfl⟩, [], trivial, ⟨⟨(by repeat (first | exact trivial | exact rfl | (refine And.intro ?_ ?_))), rfl, rfl, (by repeat (first | exact trivial | exact rfl | (refine And.intro ?_ ?_))), rfl, rfl, trivial⟩, ⟨rfl, rfl, trivial⟩, rfl, rfl⟩⟩
        · obtain ⟨hx25, hd2, hlt26⟩ := restCons hd22
          replace h20 := (qcref5_All_l2.eq_2 _ _ _ _ _ _ _ _).symm.trans h20
          refine COk.seqQ fun Q1044 qn1044 qx1044 qr1044 => ?_
          refine gor hn ?_
          refine qn1044 _ _ ?_
          refine COk.seqQ fun Q1045 qn1045 qx1045 qr1045 => ?_
          refine goc hn ?_
          refine bselT hlt26 ?_
          refine gok hn ?_
          refine qn1045 _ _ ?_
          refine COk.seqQ fun Q1046 qn1046 qx1046 qr1046 => ?_
          refine COk.blkQ fun Q1047 qn1047 qe1047 qx1047 qr1047 => ?_
          refine COk.seqQ fun Q1048 qn1048 qx1048 qr1048 => ?_
          refine gor hn ?_
          refine qn1048 _ _ ?_
          refine COk.seqQ fun Q1049 qn1049 qx1049 qr1049 => ?_
          refine god hn (by kernel_rfl) ?_
          obtain ⟨r27, hr28, h20⟩ := bindM h20
          show CallOk Try.prog _ _ _ _
          refine CallOk.as ((qcref5_Sites_ok N a0 a1 (k2 : Int) (k15 : Int) r27 hr28).sw 0 33) (by repeat (first | exact trivial | exact rfl | (refine And.intro ?_ ?_))) trivial rfl ?_
          obtain ⟨r29, hr30, h20⟩ := bindM h20
          show CallOk Try.prog _ _ _ _
          refine CallOk.fz (qcref5_Fast_ok N a0 (k2 : Int) (k15 : Int) r27 r29 hr30) (by repeat (first | exact trivial | exact rfl | (refine And.intro ?_ ?_))) trivial rfl rfl ?_
          refine qn1049 _ _ ?_
          refine COk.seqQ fun Q1050 qn1050 qx1050 qr1050 => ?_
          refine COk.sub (ts2 := [(1, .sl 4 (List.map eTl a1)), (2, .ptr 2 0), (5, .own 205), (6, .int (k2 : Int)), (9, .ptr 9 0), (10, .bool r29.2), (12, .sl 4 (List.map eCl a0.classes)), (13, .int (a0.classes.length : Int)), (14, .int (k2 : Int)), (21, .int (x11.methods.length : Int)), (22, .int (k15 : Int))]) (os2 := [(2, .box (eWd a0) 26), (9, .box (eFs r29.1) 53), (205, .row 5 (List.map eFs v16) 53)]) [] ⟨⟨(by repeat (first | exact trivial | exact rfl | (refine And.intro ?_ ?_))), rfl, rfl, rfl, rfl, rfl, (by repeat (first | exact trivial | exact rfl | (refine And.intro ?_ ?_))), rfl, rfl, rfl, rfl, trivial⟩, ⟨rfl, rfl, rfl, trivial⟩, rfl, rfl⟩ (by rw [hn]; rfl) ?_
          refine gor hn ?_
          refine qn1050 _ _ ?_
          obtain ⟨o33, h32, h20⟩ := bindM h20
          refine COk.joinR (ι := { s : (List Fs) // o33 = s }) (fun s => [(1, .sl 4 (List.map eTl a1)), (2, .ptr 2 0), (5, .own 41), (6, .int (k2 : Int)), (12, .sl 4 (List.map eCl a0.classes)), (13, .int (a0.classes.length : Int)), (14, .int (k2 : Int)), (21, .int (x11.methods.length : Int)), (22, .int (k15 : Int))]) (fun s => [(2, .box (eWd a0) 26), (41, .row 5 (List.map eFs s.1) 53)]) (fun Q1051 qn1051 qx1051 qr1051 => ?_) (by intro s; rw [hn]; rfl) ?_
          · refine goc hn ?_
            refine bselM h32 (fun hb34 h32 => ?_) (fun hb34 h32 => ?_)
            · refine gor hn ?_
              refine Exists.intro (List.map eFs [r29.1]) (And.intro (by repeat (first | exact trivial | exact rfl | (refine And.intro ?_ ?_))) ?_)
              obtain ⟨hg35, h32⟩ := guardM h32
              refine appM (l2 := [r29.1]) hg35 (leLs_refl _) ?_
              refine qn1051 _ _ ?_
              obtain rfl := Option.some.inj h32
              refine EOk.done ?_
              exact ⟨⟨_, rfl⟩, [], trivial, ⟨⟨(by repeat (first | exact trivial | exact rfl | (refine And.intro ?_ ?_))), rfl, rfl, rfl, (by repeat (first | exact trivial | exact rfl | (refine And.intro ?_ ?_))), rfl, rfl, rfl, rfl, trivial⟩, ⟨rfl, rfl, trivial⟩, rfl, rfl⟩⟩
            · refine gok hn ?_
              refine qn1051 _ _ ?_
              obtain rfl := Option.some.inj h32
              refine EOk.done ?_
              exact ⟨⟨_, rfl⟩, [(41, 205)], trivial, ⟨⟨(by repeat (first | exact trivial | exact rfl | (refine And.intro ?_ ?_))), rfl, rfl, rfl, (by repeat (first | exact trivial | exact rfl | (refine And.intro ?_ ?_))), rfl, rfl, rfl, rfl, trivial⟩, ⟨rfl, rfl, trivial⟩, rfl, rfl⟩⟩
          rintro ⟨v31, hv_⟩
          replace hv_ := hv_.symm
          subst hv_
          refine qn1047 _ _ ?_
          refine qn1046 _ _ ?_
          refine gor hn ?_
          refine Or.inl (And.intro (inrK hx25 hl14) ?_)
          refine qn1041 _ _ ?_
          refine EOk.done ?_
          exact ⟨⟨(rest21, k15 + 1, v31), hd2, h20⟩, [(205, 41)], by show rest21.length < rest21.length + 1; omega, ⟨⟨(by repeat (first | exact trivial | exact rfl | (refine And.intro ?_ ?_))), rfl, rfl, rfl, (by repeat (first | exact trivial | exact rfl | (refine And.intro ?_ ?_))), rfl, rfl, rfl, rfl, trivial⟩, ⟨rfl, rfl, trivial⟩, rfl, rfl⟩⟩
      rintro ⟨v18, hv_⟩
      replace hv_ := hv_.symm
      subst hv_
      refine qn1012 _ _ ?_
      refine qn951 _ _ ?_
      refine gor hn ?_
      refine Or.inl (And.intro (inrK hx12 hl1) ?_)
      refine qn946 _ _ ?_
      refine EOk.done ?_
      exact ⟨⟨(rest8, k2 + 1, v18), hd2, h7⟩, [], by show rest8.length < rest8.length + 1; omega, ⟨⟨(by repeat (first | exact trivial | exact rfl | (refine And.intro ?_ ?_))), rfl, rfl, (by repeat (first | exact trivial | exact rfl | (refine And.intro ?_ ?_))), rfl, rfl, trivial⟩, ⟨rfl, rfl, trivial⟩, rfl, rfl⟩⟩
  rintro ⟨v5, hv_⟩
  replace hv_ := hv_.symm
  subst hv_
  refine qn529 _ _ ?_
  refine COk.seqQ fun Q1052 qn1052 qx1052 qr1052 => ?_
  refine gor hn ?_
  refine qn1052 _ _ ?_
  refine got hn ?_
  obtain rfl := Option.some.inj h
  exact ⟨[(0, 205)], _, rfl, (by repeat (first | exact trivial | exact rfl | (refine And.intro ?_ ?_))), ⟨rfl, trivial⟩, rfl, rfl, rfl, rfl, rfl⟩

/- qclaw11.FastTells -/
set_option maxRecDepth 100000 in
set_option maxHeartbeats 1000000 in
theorem qclaw11_FastTells_ok (N : Nat) (a0 : Wd) (a1 : (List Tl)) (r : Bool) (h : qclaw11_FastTells N a0 a1 = some r) : Spec Try.prog 9 [] [.agg (eWd a0), .sl 4 (List.map eTl a1)] (.bool r) [] [] := by
  refine Spec.of tabOk Try.func9 rfl Try.ntmps9 (by kernel_rfl) rfl rfl rfl fun Γ hn => ?_
  unfold qclaw11_FastTells at h
  refine COk.seqQ fun Q63 qn63 qx63 qr63 => ?_
  refine gor hn ?_
  refine qn63 _ _ ?_
  refine COk.seqQ fun Q64 qn64 qx64 qr64 => ?_
  refine COk.seqQ fun Q65 qn65 qx65 qr65 => ?_
  obtain ⟨o3, h2, h⟩ := bindM h
  refine COk.joinR (ι := { s : Bool // o3 = s }) (fun s => [(1, .sl 4 (List.map eTl a1)), (2, .ptr 2 0), (15, .bool s.1)]) (fun s => [(2, .box (eWd a0) 26)]) (fun Q66 qn66 qx66 qr66 => ?_) (by intro s; rw [hn]; rfl) ?_
  · refine gor hn ?_
    obtain ⟨r4, hr5, h2⟩ := bindM h2
    show CallOk Try.prog _ _ _ _
    refine CallOk.as (qcref1_Right_ok N a0 r4 hr5) (by repeat (first | exact trivial | exact rfl | (refine And.intro ?_ ?_))) trivial rfl ?_
    refine bselM h2 (fun hb6 h2 => ?_) (fun hb6 h2 => ?_)
    · refine bselT hb6 ?_
      refine bselT hb6 ?_
      refine bselT hb6 ?_
      refine qn66 _ _ ?_
      obtain rfl := Option.some.inj h2
      refine EOk.done ?_
      exact ⟨⟨_, rfl⟩, [], trivial, ⟨⟨(by repeat (first | exact trivial | exact rfl | (refine And.intro ?_ ?_))), rfl, rfl, trivial⟩, ⟨rfl, trivial⟩, rfl, rfl⟩⟩
    · refine bselF hb6 ?_
      obtain ⟨r7, hr8, h2⟩ := bindM h2
      show CallOk Try.prog _ _ _ _
      refine CallOk.as (qclaw11_small_ok N a1 r7 hr8) (by repeat (first | exact trivial | exact rfl | (refine And.intro ?_ ?_))) trivial rfl ?_
      refine bselF hb6 ?_
      refine bselF hb6 ?_
      refine qn66 _ _ ?_
      obtain rfl := Option.some.inj h2
      refine EOk.done ?_
      exact ⟨⟨_, rfl⟩, [], trivial, ⟨⟨(by repeat (first | exact trivial | exact rfl | (refine And.intro ?_ ?_))), rfl, rfl, trivial⟩, ⟨rfl, trivial⟩, rfl, rfl⟩⟩
  rintro ⟨v1, hv_⟩
  replace hv_ := hv_.symm
  subst hv_
  refine qn65 _ _ ?_
  refine goc hn ?_
  refine bselM h (fun hb9 h => ?_) (fun hb9 h => ?_)
  · refine COk.seqQ fun Q68 qn68 qx68 qr68 => ?_
    refine gor hn ?_
    refine qn68 _ _ ?_
    refine got hn ?_
    refine qr64 _ _ ?_
    obtain rfl := Option.some.inj h
    exact ⟨[], _, rfl, (by repeat (first | exact trivial | exact rfl | (refine And.intro ?_ ?_))), trivial, rfl, rfl, rfl, rfl, rfl⟩
  · refine gok hn ?_
    refine qn64 _ _ ?_
    refine COk.seqQ fun Q69 qn69 qx69 qr69 => ?_
    refine god hn (by kernel_rfl) ?_
    obtain ⟨r10, hr11, h⟩ := bindM h
    show CallOk Try.prog _ _ _ _
    refine CallOk.as ((fast_All_ok N a0 a1 r10 hr11).sw 0 18) (by repeat (first | exact trivial | exact rfl | (refine And.intro ?_ ?_))) trivial rfl ?_
    obtain ⟨r12, hr13, h⟩ := bindM h
    show CallOk Try.prog _ _ _ _
    refine CallOk.as ((qcref5_All_ok N a0 a1 r12 hr13).sw 0 21) (by repeat (first | exact trivial | exact rfl | (refine And.intro ?_ ?_))) trivial rfl ?_
    refine qn69 _ _ ?_
    refine COk.seqQ fun Q70 qn70 qx70 qr70 => ?_
    refine COk.seqQ fun Q71 qn71 qx71 qr71 => ?_
    refine gor hn ?_
    refine lenM (fun hl14 => ?_)
    refine lenM (fun hl15 => ?_)
    refine qn71 _ _ ?_
    refine goc hn ?_
    refine bselM h (fun hb16 h => ?_) (fun hb16 h => ?_)
    · refine COk.seqQ fun Q73 qn73 qx73 qr73 => ?_
      refine gor hn ?_
      refine qn73 _ _ ?_
      refine got hn ?_
      refine qr70 _ _ ?_
      obtain rfl := Option.some.inj h
      exact ⟨[], _, rfl, (by repeat (first | exact trivial | exact rfl | (refine And.intro ?_ ?_))), trivial, rfl, rfl, rfl, rfl, rfl⟩
    · refine gok hn ?_
      refine qn70 _ _ ?_
      refine COk.seqQ fun Q74 qn74 qx74 qr74 => ?_
      refine COk.seqQ fun Q75 qn75 qx75 qr75 => ?_
      refine gor hn ?_
      refine lenM (fun hl17 => ?_)
      refine qn75 _ _ ?_
      obtain ⟨o19, h20, h⟩ := bindM h
      refine COk.joinR (ι := { s : Unit // o19 = Ctl.next s }) (fun s => []) (fun s => []) (fun Q107 qn107 qx107 qr107 => ?_) (by intro s; rw [hn]; rfl) ?_
      · refine COk.blkQ fun Q108 qn108 qe108 qx108 qr108 => ?_
        refine COk.loopQ (ι := { q : ((List Fs) × Nat) // q.1 = r10.drop q.2 ∧ qclaw11_FastTells_l1 N r10 r12 q.1 q.2 = some o19 }) (fun q => [(5, .own 18), (6, .own 21), (28, .int (r10.length : Int)), (29, .int (q.1.2 : Int))]) (fun q => [(18, .row 5 (List.map eFs r10) 53), (21, .row 5 (List.map eFs r12) 53)]) (fun q => q.1.1.length) ⟨(r10, 0), rfl, h20⟩ [] ⟨⟨rfl, rfl, rfl, rfl, trivial⟩, ⟨rfl, rfl, trivial⟩, rfl, rfl⟩ (by intro q; rw [hn]; rfl) ?_
        rintro ⟨⟨rest_, k18⟩, hd22, h20⟩ Q109 qn109 qx109 qr109
        replace hd22 : rest_ = r10.drop k18 := hd22
        rcases rest_ with _ | ⟨x24, rest21⟩
        · have hlt26 := restNil hd22
          replace h20 := (qclaw11_FastTells_l1.eq_1 _ _ _ _).symm.trans h20
          refine COk.seqQ fun Q110 qn110 qx110 qr110 => ?_
          refine gor hn ?_
          refine qn110 _ _ ?_
          refine COk.seqQ fun Q111 qn111 qx111 qr111 => ?_
          refine goc hn ?_
          refine bselF hlt26 ?_
          refine goe hn ?_
          refine qx111 _ _ _ ?_
          refine qx109 _ _ _ ?_
          refine qe108 _ _ ?_
          refine qn107 _ _ ?_
          obtain rfl := Option.some.inj h20
          refine EOk.done ?_
          exact ⟨⟨_, rfl⟩, [], trivial, ⟨trivial, trivial, rfl, rfl⟩⟩
        · obtain ⟨hx25, hd2, hlt26⟩ := restCons hd22
          replace h20 := (qclaw11_FastTells_l1.eq_2 _ _ _ _ _ _).symm.trans h20
          refine COk.seqQ fun Q112 qn112 qx112 qr112 => ?_
          refine gor hn ?_
          refine qn112 _ _ ?_
          refine COk.seqQ fun Q113 qn113 qx113 qr113 => ?_
          refine goc hn ?_
          refine bselT hlt26 ?_
          refine gok hn ?_
          refine qn113 _ _ ?_
          refine COk.seqQ fun Q114 qn114 qx114 qr114 => ?_
          refine COk.blkQ fun Q120 qn120 qe120 qx120 qr120 => ?_
          refine COk.seqQ fun Q121 qn121 qx121 qr121 => ?_
          refine gor hn ?_
          refine qn121 _ _ ?_
          refine COk.seqQ fun Q122 qn122 qx122 qr122 => ?_
          refine god hn (by kernel_rfl) ?_
          obtain ⟨x27, hx28, h20⟩ := bindM h20
          refine ownM hx28 ?_
          refine ldM (nthO_some hx28).2 ?_
          obtain ⟨x29, hx30, h20⟩ := bindM h20
          refine ownM hx30 ?_
          refine ldM (nthO_some hx30).2 ?_
          obtain ⟨r31, hr32, h20⟩ := bindM h20
          show CallOk Try.prog _ _ _ _
          refine CallOk.as (qcref5_SameFast_ok N x27 x29 r31 hr32) (by repeat (first | exact trivial | exact rfl | (refine And.intro ?_ ?_))) trivial rfl ?_
          refine qn122 _ _ ?_
          refine goc hn ?_
          refine bselM h20 (fun hb33 h20 => ?_) (fun hb33 h20 => ?_)
          · refine COk.seqQ fun Q123 qn123 qx123 qr123 => ?_
            refine COk.sub (ts2 := []) (os2 := []) [] ⟨trivial, trivial, rfl, rfl⟩ (by rw [hn]; rfl) ?_
            refine gor hn ?_
            refine qn123 _ _ ?_
            refine got hn ?_
            refine qr120 _ _ ?_
            refine qr114 _ _ ?_
            refine qr109 _ _ ?_
            refine qr108 _ _ ?_
            refine qr107 _ _ ?_
            refine qr74 _ _ ?_
            obtain rfl := Option.some.inj h20
            obtain rfl := Option.some.inj h
            exact ⟨[], _, rfl, (by repeat (first | exact trivial | exact rfl | (refine And.intro ?_ ?_))), trivial, rfl, rfl, rfl, rfl, rfl⟩
          · refine gok hn ?_
            refine qn120 _ _ ?_
            refine qn114 _ _ ?_
            refine COk.sub (ts2 := [(5, .own 18), (6, .own 21), (28, .int (r10.length : Int)), (29, .int (k18 : Int))]) (os2 := [(18, .row 5 (List.map eFs r10) 53), (21, .row 5 (List.map eFs r12) 53)]) [] ⟨⟨rfl, rfl, rfl, rfl, trivial⟩, ⟨rfl, rfl, trivial⟩, rfl, rfl⟩ (by rw [hn]; rfl) ?_
            refine gor hn ?_
            refine Or.inl (And.intro (inrK hx25 hl17) ?_)
            refine qn109 _ _ ?_
            refine EOk.done ?_
            exact ⟨⟨(rest21, k18 + 1), hd2, h20⟩, [], by show rest21.length < rest21.length + 1; omega, ⟨⟨rfl, rfl, rfl, rfl, trivial⟩, ⟨rfl, rfl, trivial⟩, rfl, rfl⟩⟩
      rintro ⟨⟨⟩, rfl⟩
      refine qn74 _ _ ?_
      refine COk.seqQ fun Q124 qn124 qx124 qr124 => ?_
      refine gor hn ?_
      refine qn124 _ _ ?_
      refine got hn ?_
      obtain rfl := Option.some.inj h
      exact ⟨[], _, rfl, (by repeat (first | exact trivial | exact rfl | (refine And.intro ?_ ?_))), trivial, rfl, rfl, rfl, rfl, rfl⟩
end Go.Proofs.Ytoceeiamcfdnlaa
