/- Walks after the mirrors. Printed by mir.py. -/
import Derived.Test.YtioalgofaiideaaMir
import Derived.Test.YtioalgofaiideaaYnew
namespace Go.Proofs.Ytioalgofaiideaa
open Go.RowKit
set_option linter.unusedVariables false
/- qcref1.Most -/
set_option maxRecDepth 100000 in
set_option maxHeartbeats 1000000 in
theorem qcref1_Most_ok (N : Nat) (a0 : (List Tl)) (a1 : St) (r : (Int × Int × Int)) (h : qcref1_Most N a0 a1 = some r) : Spec Try.prog 14 [] [.sl 4 (List.map eTl a0), .agg (eSt a1)] (.tup [.int r.1, .int r.2.1, .int r.2.2]) [] [] := by
  refine Spec.of tabOk Try.func14 rfl Try.ntmps14 (by kernel_rfl) rfl rfl rfl fun Γ hn => ?_
  unfold qcref1_Most at h
  refine COk.seqQ fun Q1639 qn1639 qx1639 qr1639 => ?_
  refine gor hn ?_
  refine qn1639 _ _ ?_
  refine COk.seqQ fun Q1640 qn1640 qx1640 qr1640 => ?_
  refine gor hn ?_
  refine qn1640 _ _ ?_
  refine COk.seqQ fun Q1641 qn1641 qx1641 qr1641 => ?_
  refine COk.seqQ fun Q1642 qn1642 qx1642 qr1642 => ?_
  refine gor hn ?_
  refine lenM (fun hl1 => ?_)
  refine qn1642 _ _ ?_
  obtain ⟨o12, h13, h⟩ := bindM h
  refine COk.joinR (ι := { s : (Int × Int × Int) // o12 = s }) (fun s => [(7, .int s.1.1), (8, .int s.1.2.1), (9, .int s.1.2.2)]) (fun s => []) (fun Q2864 qn2864 qx2864 qr2864 => ?_) (by intro s; rw [hn]; rfl) ?_
  · refine COk.blkQ fun Q2865 qn2865 qe2865 qx2865 qr2865 => ?_
    refine COk.loopQ (ι := { q : ((List Tl) × Nat × Int × Int × Int) // q.1 = a0.drop q.2.1 ∧ qcref1_Most_l1 N a1 q.1 q.2.1 q.2.2.1 q.2.2.2.1 q.2.2.2.2 = some o12 }) (fun q => [(3, .ptr 3 0), (7, .int q.1.2.2.1), (8, .int q.1.2.2.2.1), (9, .int q.1.2.2.2.2), (14, .sl 4 (List.map eTl a0)), (15, .int (a0.length : Int)), (16, .int (q.1.2.1 : Int))]) (fun q => [(3, .box (eSt a1) 24)]) (fun q => q.1.1.length) ⟨(a0, 0, (-1 : Int), (0 : Int), (0 : Int)), rfl, h13⟩ [] ⟨⟨rfl, rfl, rfl, rfl, (by repeat (first | exact trivial | exact rfl | (refine And.intro ?_ ?_))), rfl, rfl, trivial⟩, ⟨rfl, trivial⟩, rfl, rfl⟩ (by intro q; rw [hn]; rfl) ?_
    rintro ⟨⟨rest_, k2, v3, v4, v5⟩, hd15, h13⟩ Q2866 qn2866 qx2866 qr2866
    replace hd15 : rest_ = a0.drop k2 := hd15
    rcases rest_ with _ | ⟨x17, rest14⟩
    · have hlt19 := restNil hd15
      replace h13 := (qcref1_Most_l1.eq_1 _ _ _ _ _ _).symm.trans h13
      refine COk.seqQ fun Q2867 qn2867 qx2867 qr2867 => ?_
      refine gor hn ?_
      refine qn2867 _ _ ?_
      refine COk.seqQ fun Q2868 qn2868 qx2868 qr2868 => ?_
      refine goc hn ?_
      refine bselF hlt19 ?_
      refine goe hn ?_
      refine qx2868 _ _ _ ?_
      refine qx2866 _ _ _ ?_
      refine qe2865 _ _ ?_
      refine qn2864 _ _ ?_
      obtain rfl := Option.some.inj h13
      refine EOk.done ?_
      exact ⟨⟨_, rfl⟩, [], trivial, ⟨⟨rfl, rfl, rfl, trivial⟩, trivial, rfl, rfl⟩⟩
    · obtain ⟨hx18, hd2, hlt19⟩ := restCons hd15
      replace h13 := (qcref1_Most_l1.eq_2 _ _ _ _ _ _ _ _).symm.trans h13
      refine COk.seqQ fun Q2869 qn2869 qx2869 qr2869 => ?_
      refine gor hn ?_
      refine qn2869 _ _ ?_
      refine COk.seqQ fun Q2870 qn2870 qx2870 qr2870 => ?_
      refine goc hn ?_
      refine bselT hlt19 ?_
      refine gok hn ?_
      refine qn2870 _ _ ?_
      refine COk.seqQ fun Q2871 qn2871 qx2871 qr2871 => ?_
      refine COk.blkQ fun Q3074 qn3074 qe3074 qx3074 qr3074 => ?_
      refine COk.seqQ fun Q3075 qn3075 qx3075 qr3075 => ?_
      refine gor hn ?_
      refine idxK hx18 ?_
      refine qn3075 _ _ ?_
      refine COk.seqQ fun Q3076 qn3076 qx3076 qr3076 => ?_
      refine gor hn ?_
      refine qn3076 _ _ ?_
      obtain ⟨o24, h23, h13⟩ := bindM h13
      refine COk.joinR (ι := { s : (Int × Int × Int) // o24 = s }) (fun s => [(3, .ptr 3 0), (7, .int s.1.1), (8, .int s.1.2.1), (9, .int s.1.2.2), (14, .sl 4 (List.map eTl a0)), (15, .int (a0.length : Int)), (16, .int (k2 : Int))]) (fun s => [(3, .box (eSt a1) 24)]) (fun Q3209 qn3209 qx3209 qr3209 => ?_) (by intro s; rw [hn]; rfl) ?_
      · refine goc hn ?_
        refine bselM h23 (fun hb25 h23 => ?_) (fun hb25 h23 => ?_)
        · refine COk.seqQ fun Q3210 qn3210 qx3210 qr3210 => ?_
          refine gor hn ?_
          refine lenM (fun hl26 => ?_)
          refine qn3210 _ _ ?_
          obtain ⟨o37, h38, h23⟩ := bindM h23
          refine COk.joinR (ι := { s : (Int × Int × Int) // o37 = s }) (fun s => [(3, .ptr 3 0), (7, .int s.1.1), (8, .int s.1.2.1), (9, .int s.1.2.2), (14, .sl 4 (List.map eTl a0)), (15, .int (a0.length : Int)), (16, .int (k2 : Int))]) (fun s => [(3, .box (eSt a1) 24)]) (fun Q3256 qn3256 qx3256 qr3256 => ?_) (by intro s; rw [hn]; rfl) ?_
          · refine COk.blkQ fun Q3257 qn3257 qe3257 qx3257 qr3257 => ?_
            refine COk.loopQ (ι := { q : ((List Ln) × Nat × Int × Int × Int) // q.1 = x17.classes.drop q.2.1 ∧ qcref1_Most_l2 N q.1 q.2.1 q.2.2.1 q.2.2.2.1 q.2.2.2.2 = some o37 }) (fun q => [(3, .ptr 3 0), (7, .int q.1.2.2.1), (8, .int q.1.2.2.2.1), (9, .int q.1.2.2.2.2), (14, .sl 4 (List.map eTl a0)), (15, .int (a0.length : Int)), (16, .int (k2 : Int)), (25, .sl 2 (List.map eLn x17.classes)), (26, .int (x17.classes.length : Int)), (27, .int (q.1.2.1 : Int))]) (fun q => [(3, .box (eSt a1) 24)]) (fun q => q.1.1.length) ⟨(x17.classes, 0, v3, v4, v5), rfl, h38⟩ [] ⟨⟨rfl, rfl, rfl, rfl, (by repeat (first | exact trivial | exact rfl | (refine And.intro ?_ ?_))), rfl, rfl, (by repeat (first | exact trivial | exact rfl | (refine And.intro ?_ ?_))), rfl, rfl, trivial⟩, ⟨rfl, trivial⟩, rfl, rfl⟩ (by intro q; rw [hn]; rfl) ?_
            rintro ⟨⟨rest_, k27, v28, v29, v30⟩, hd40, h38⟩ Q3258 qn3258 qx3258 qr3258
            replace hd40 : rest_ = x17.classes.drop k27 := hd40
            rcases rest_ with _ | ⟨x42, rest39⟩
            · have hlt44 := restNil hd40
              replace h38 := (qcref1_Most_l2.eq_1 _ _ _ _ _).symm.trans h38
              refine COk.seqQ fun Q3259 qn3259 qx3259 qr3259 => ?_
              refine gor hn ?_
              refine qn3259 _ _ ?_
              refine COk.seqQ fun Q3260 qn3260 qx3260 qr3260 => ?_
              refine goc hn ?_
              refine bselF hlt44 ?_
              refine goe hn ?_
              refine qx3260 _ _ _ ?_
              refine qx3258 _ _ _ ?_
              refine qe3257 _ _ ?_
              refine qn3256 _ _ ?_
              obtain rfl := Option.some.inj h38
              refine EOk.done ?_
              exact ⟨⟨_, rfl⟩, [], trivial, ⟨⟨rfl, rfl, rfl, rfl, (by repeat (first | exact trivial | exact rfl | (refine And.intro ?_ ?_))), rfl, rfl, trivial⟩, ⟨rfl, trivial⟩, rfl, rfl⟩⟩
            · obtain ⟨hx43, hd2, hlt44⟩ := restCons hd40
              replace h38 := (qcref1_Most_l2.eq_2 _ _ _ _ _ _ _).symm.trans h38
              refine COk.seqQ fun Q3261 qn3261 qx3261 qr3261 => ?_
              refine gor hn ?_
              refine qn3261 _ _ ?_
              refine COk.seqQ fun Q3262 qn3262 qx3262 qr3262 => ?_
              refine goc hn ?_
              refine bselT hlt44 ?_
              refine gok hn ?_
              refine qn3262 _ _ ?_
              refine COk.seqQ fun Q3263 qn3263 qx3263 qr3263 => ?_
              refine COk.blkQ fun Q3270 qn3270 qe3270 qx3270 qr3270 => ?_
              refine COk.seqQ fun Q3271 qn3271 qx3271 qr3271 => ?_
              refine gor hn ?_
              refine idxK hx43 ?_
              refine qn3271 _ _ ?_
              refine COk.seqQ fun Q3272 qn3272 qx3272 qr3272 => ?_
              refine gor hn ?_
              refine Or.inr ?_
              refine qn3272 _ _ ?_
              refine COk.seqQ fun Q3273 qn3273 qx3273 qr3273 => ?_
              obtain ⟨o47, h46, h38⟩ := bindM h38
              refine COk.joinR (ι := { s : Bool // o47 = s }) (fun s => [(3, .ptr 3 0), (7, .int v28), (8, .int v29), (9, .int (wr (v30 + x42.found))), (13, .ptr 13 0), (14, .sl 4 (List.map eTl a0)), (15, .int (a0.length : Int)), (16, .int (k2 : Int)), (25, .sl 2 (List.map eLn x17.classes)), (26, .int (x17.classes.length : Int)), (27, .int (k27 : Int)), (54, .bool s.1)]) (fun s => [(3, .box (eSt a1) 24), (13, .box (eLn x42) 29)]) (fun Q3274 qn3274 qx3274 qr3274 => ?_) (by intro s; rw [hn]; rfl) ?_
              · refine COk.sub (ts2 := [(3, .ptr 3 0), (7, .int v28), (8, .int v29), (9, .int (wr (v30 + x42.found))), (13, .ptr 13 0), (14, .sl 4 (List.map eTl a0)), (15, .int (a0.length : Int)), (16, .int (k2 : Int)), (25, .sl 2 (List.map eLn x17.classes)), (26, .int (x17.classes.length : Int)), (27, .int (k27 : Int))]) (os2 := [(3, .box (eSt a1) 24), (13, .box (eLn x42) 29)]) [] ⟨⟨rfl, rfl, rfl, rfl, rfl, (by repeat (first | exact trivial | exact rfl | (refine And.intro ?_ ?_))), rfl, rfl, (by repeat (first | exact trivial | exact rfl | (refine And.intro ?_ ?_))), rfl, rfl, trivial⟩, ⟨rfl, rfl, trivial⟩, rfl, rfl⟩ (by rw [hn]; rfl) ?_
                refine gor hn ?_
                refine bselM h46 (fun hb48 h46 => ?_) (fun hb48 h46 => ?_)
                · refine bselT hb48 ?_
                  refine bselT hb48 ?_
                  refine bselT hb48 ?_
                  refine bselT hb48 ?_
                  refine bselT hb48 ?_
                  refine bselT hb48 ?_
                  refine qn3274 _ _ ?_
                  obtain rfl := Option.some.inj h46
                  refine EOk.done ?_
                  exact ⟨⟨_, rfl⟩, [], trivial, ⟨⟨rfl, rfl, rfl, rfl, rfl, (by repeat (first | exact trivial | exact rfl | (refine And.intro ?_ ?_))), rfl, rfl, (by repeat (first | exact trivial | exact rfl | (refine And.intro ?_ ?_))), rfl, rfl, rfl, trivial⟩, ⟨rfl, rfl, trivial⟩, rfl, rfl⟩⟩
                · refine bselF hb48 ?_
                  refine bselF hb48 ?_
                  refine bselM h46 (fun hb49 h46 => ?_) (fun hb49 h46 => ?_)
                  · refine bselT hb49 ?_
                    refine bselT hb49 ?_
                    refine bselT hb49 ?_
                    refine bselF hb48 ?_
                    refine bselT hb49 ?_
                    refine bselF hb48 ?_
                    refine bselM h46 (fun hb50 h46 => ?_) (fun hb50 h46 => ?_)
                    · refine bselT hb50 ?_
                      refine bselT hb50 ?_
                      refine bselT hb50 ?_
                      refine bselF hb48 ?_
                      refine bselT hb50 ?_
                      refine bselF hb48 ?_
                      refine qn3274 _ _ ?_
                      obtain rfl := Option.some.inj h46
                      refine EOk.done ?_
                      exact ⟨⟨_, rfl⟩, [], trivial, ⟨⟨rfl, rfl, rfl, rfl, rfl, (by repeat (first | exact trivial | exact rfl | (refine And.intro ?_ ?_))), rfl, rfl, (by repeat (first | exact trivial | exact rfl | (refine And.intro ?_ ?_))), rfl, rfl, rfl, trivial⟩, ⟨rfl, rfl, trivial⟩, rfl, rfl⟩⟩
                    · refine bselF hb50 ?_
                      refine bselF hb50 ?_
                      refine bselF hb50 ?_
                      refine bselF hb48 ?_
                      refine bselF hb50 ?_
                      refine bselF hb48 ?_
                      refine qn3274 _ _ ?_
                      obtain rfl := Option.some.inj h46
                      refine EOk.done ?_
                      exact ⟨⟨_, rfl⟩, [], trivial, ⟨⟨rfl, rfl, rfl, rfl, rfl, (by repeat (first | exact trivial | exact rfl | (refine And.intro ?_ ?_))), rfl, rfl, (by repeat (first | exact trivial | exact rfl | (refine And.intro ?_ ?_))), rfl, rfl, rfl, trivial⟩, ⟨rfl, rfl, trivial⟩, rfl, rfl⟩⟩
                  · refine bselF hb49 ?_
                    refine bselF hb49 ?_
                    refine bselF hb49 ?_
                    refine bselF hb48 ?_
                    refine bselF hb49 ?_
                    refine bselF hb48 ?_
                    refine bselF hb48 ?_
                    refine bselF hb48 ?_
                    refine qn3274 _ _ ?_
                    obtain rfl := Option.some.inj h46
                    refine EOk.done ?_
                    exact ⟨⟨_, rfl⟩, [], trivial, ⟨⟨rfl, rfl, rfl, rfl, rfl, (by repeat (first | exact trivial | exact rfl | (refine And.intro ?_ ?_))), rfl, rfl, (by repeat (first | exact trivial | exact rfl | (refine And.intro ?_ ?_))), rfl, rfl, rfl, trivial⟩, ⟨rfl, rfl, trivial⟩, rfl, rfl⟩⟩
              rintro ⟨v45, hv_⟩
              replace hv_ := hv_.symm
              subst hv_
              refine qn3273 _ _ ?_
              obtain ⟨o54, h53, h38⟩ := bindM h38
              refine COk.joinR (ι := { s : (Int × Int) // o54 = s }) (fun s => [(3, .ptr 3 0), (7, .int s.1.1), (8, .int s.1.2), (9, .int (wr (v30 + x42.found))), (14, .sl 4 (List.map eTl a0)), (15, .int (a0.length : Int)), (16, .int (k2 : Int)), (25, .sl 2 (List.map eLn x17.classes)), (26, .int (x17.classes.length : Int)), (27, .int (k27 : Int))]) (fun s => [(3, .box (eSt a1) 24)]) (fun Q3275 qn3275 qx3275 qr3275 => ?_) (by intro s; rw [hn]; rfl) ?_
              · refine goc hn ?_
                refine bselM h53 (fun hb55 h53 => ?_) (fun hb55 h53 => ?_)
                · refine god hn (by kernel_rfl) ?_
                  refine qn3275 _ _ ?_
                  obtain rfl := Option.some.inj h53
                  refine EOk.done ?_
                  exact ⟨⟨_, rfl⟩, [], trivial, ⟨⟨rfl, rfl, rfl, rfl, (by repeat (first | exact trivial | exact rfl | (refine And.intro ?_ ?_))), rfl, rfl, (by repeat (first | exact trivial | exact rfl | (refine And.intro ?_ ?_))), rfl, rfl, trivial⟩, ⟨rfl, trivial⟩, rfl, rfl⟩⟩
                · refine gok hn ?_
                  refine qn3275 _ _ ?_
                  obtain rfl := Option.some.inj h53
                  refine EOk.done ?_
                  exact ⟨⟨_, rfl⟩, [], trivial, ⟨⟨rfl, rfl, rfl, rfl, (by repeat (first | exact trivial | exact rfl | (refine And.intro ?_ ?_))), rfl, rfl, (by repeat (first | exact trivial | exact rfl | (refine And.intro ?_ ?_))), rfl, rfl, trivial⟩, ⟨rfl, trivial⟩, rfl, rfl⟩⟩
              rintro ⟨⟨v51, v52⟩, rfl⟩
              refine qn3270 _ _ ?_
              refine qn3263 _ _ ?_
              refine gor hn ?_
              refine Or.inl (And.intro (inrK hx43 hl26) ?_)
              refine qn3258 _ _ ?_
              refine EOk.done ?_
              exact ⟨⟨(rest39, k27 + 1, v51, v52, (wr (v30 + x42.found))), hd2, h38⟩, [], by show rest39.length < rest39.length + 1; omega, ⟨⟨rfl, rfl, rfl, rfl, (by repeat (first | exact trivial | exact rfl | (refine And.intro ?_ ?_))), rfl, rfl, (by repeat (first | exact trivial | exact rfl | (refine And.intro ?_ ?_))), rfl, rfl, trivial⟩, ⟨rfl, trivial⟩, rfl, rfl⟩⟩
          rintro ⟨⟨v34, v35, v36⟩, rfl⟩
          refine qn3209 _ _ ?_
          obtain rfl := Option.some.inj h23
          refine EOk.done ?_
          exact ⟨⟨_, rfl⟩, [], trivial, ⟨⟨rfl, rfl, rfl, rfl, (by repeat (first | exact trivial | exact rfl | (refine And.intro ?_ ?_))), rfl, rfl, trivial⟩, ⟨rfl, trivial⟩, rfl, rfl⟩⟩
        · refine gok hn ?_
          refine qn3209 _ _ ?_
          obtain rfl := Option.some.inj h23
          refine EOk.done ?_
          exact ⟨⟨_, rfl⟩, [], trivial, ⟨⟨rfl, rfl, rfl, rfl, (by repeat (first | exact trivial | exact rfl | (refine And.intro ?_ ?_))), rfl, rfl, trivial⟩, ⟨rfl, trivial⟩, rfl, rfl⟩⟩
      rintro ⟨⟨v20, v21, v22⟩, rfl⟩
      refine qn3074 _ _ ?_
      refine qn2871 _ _ ?_
      refine gor hn ?_
      refine Or.inl (And.intro (inrK hx18 hl1) ?_)
      refine qn2866 _ _ ?_
      refine EOk.done ?_
      exact ⟨⟨(rest14, k2 + 1, v20, v21, v22), hd2, h13⟩, [], by show rest14.length < rest14.length + 1; omega, ⟨⟨rfl, rfl, rfl, rfl, (by repeat (first | exact trivial | exact rfl | (refine And.intro ?_ ?_))), rfl, rfl, trivial⟩, ⟨rfl, trivial⟩, rfl, rfl⟩⟩
  rintro ⟨⟨v9, v10, v11⟩, rfl⟩
  refine qn1641 _ _ ?_
  refine COk.seqQ fun Q3276 qn3276 qx3276 qr3276 => ?_
  refine gor hn ?_
  refine qn3276 _ _ ?_
  refine got hn ?_
  obtain rfl := Option.some.inj h
  exact ⟨[], _, rfl, (by repeat (first | exact trivial | exact rfl | (refine And.intro ?_ ?_))), trivial, rfl, rfl, rfl, rfl, rfl⟩

/- tally.Most -/
set_option maxRecDepth 100000 in
set_option maxHeartbeats 1000000 in
theorem tally_Most_ok (N : Nat) (a0 : (List Tl)) (a1 : St) (r : (Int × Int)) (h : tally_Most N a0 a1 = some r) : Spec Try.prog 15 [] [.sl 4 (List.map eTl a0), .agg (eSt a1)] (.tup [.int r.1, .int r.2]) [] [] := by
  refine Spec.of tabOk Try.func15 rfl Try.ntmps15 (by kernel_rfl) rfl rfl rfl fun Γ hn => ?_
  unfold tally_Most at h
  refine COk.seqQ fun Q771 qn771 qx771 qr771 => ?_
  refine gor hn ?_
  refine qn771 _ _ ?_
  refine COk.seqQ fun Q772 qn772 qx772 qr772 => ?_
  refine gor hn ?_
  refine qn772 _ _ ?_
  refine COk.seqQ fun Q773 qn773 qx773 qr773 => ?_
  refine COk.seqQ fun Q774 qn774 qx774 qr774 => ?_
  refine gor hn ?_
  refine lenM (fun hl1 => ?_)
  refine qn774 _ _ ?_
  obtain ⟨o9, h10, h⟩ := bindM h
  refine COk.joinR (ι := { s : (Int × Int) // o9 = s }) (fun s => [(6, .int s.1.1), (7, .int s.1.2)]) (fun s => []) (fun Q1345 qn1345 qx1345 qr1345 => ?_) (by intro s; rw [hn]; rfl) ?_
  · refine COk.blkQ fun Q1346 qn1346 qe1346 qx1346 qr1346 => ?_
    refine COk.loopQ (ι := { q : ((List Tl) × Nat × Int × Int) // q.1 = a0.drop q.2.1 ∧ tally_Most_l1 N a1 q.1 q.2.1 q.2.2.1 q.2.2.2 = some o9 }) (fun q => [(3, .ptr 3 0), (6, .int q.1.2.2.1), (7, .int q.1.2.2.2), (12, .sl 4 (List.map eTl a0)), (13, .int (a0.length : Int)), (14, .int (q.1.2.1 : Int))]) (fun q => [(3, .box (eSt a1) 24)]) (fun q => q.1.1.length) ⟨(a0, 0, (-1 : Int), (0 : Int)), rfl, h10⟩ [] ⟨⟨rfl, rfl, rfl, (by repeat (first | exact trivial | exact rfl | (refine And.intro ?_ ?_))), rfl, rfl, trivial⟩, ⟨rfl, trivial⟩, rfl, rfl⟩ (by intro q; rw [hn]; rfl) ?_
    rintro ⟨⟨rest_, k2, v3, v4⟩, hd12, h10⟩ Q1347 qn1347 qx1347 qr1347
    replace hd12 : rest_ = a0.drop k2 := hd12
    rcases rest_ with _ | ⟨x14, rest11⟩
    · have hlt16 := restNil hd12
      replace h10 := (tally_Most_l1.eq_1 _ _ _ _ _).symm.trans h10
      refine COk.seqQ fun Q1348 qn1348 qx1348 qr1348 => ?_
      refine gor hn ?_
      refine qn1348 _ _ ?_
      refine COk.seqQ fun Q1349 qn1349 qx1349 qr1349 => ?_
      refine goc hn ?_
      refine bselF hlt16 ?_
      refine goe hn ?_
      refine qx1349 _ _ _ ?_
      refine qx1347 _ _ _ ?_
      refine qe1346 _ _ ?_
      refine qn1345 _ _ ?_
      obtain rfl := Option.some.inj h10
      refine EOk.done ?_
      exact ⟨⟨_, rfl⟩, [], trivial, ⟨⟨rfl, rfl, trivial⟩, trivial, rfl, rfl⟩⟩
    · obtain ⟨hx15, hd2, hlt16⟩ := restCons hd12
      replace h10 := (tally_Most_l1.eq_2 _ _ _ _ _ _ _).symm.trans h10
      refine COk.seqQ fun Q1350 qn1350 qx1350 qr1350 => ?_
      refine gor hn ?_
      refine qn1350 _ _ ?_
      refine COk.seqQ fun Q1351 qn1351 qx1351 qr1351 => ?_
      refine goc hn ?_
      refine bselT hlt16 ?_
      refine gok hn ?_
      refine qn1351 _ _ ?_
      refine COk.seqQ fun Q1352 qn1352 qx1352 qr1352 => ?_
      obtain ⟨o20, h19, h10⟩ := bindM h10
      refine COk.joinR (ι := { s : (Int × Int) // o20 = s }) (fun s => [(3, .ptr 3 0), (6, .int s.1.1), (7, .int s.1.2), (12, .sl 4 (List.map eTl a0)), (13, .int (a0.length : Int)), (14, .int (k2 : Int))]) (fun s => [(3, .box (eSt a1) 24)]) (fun Q1477 qn1477 qx1477 qr1477 => ?_) (by intro s; rw [hn]; rfl) ?_
      · refine COk.blkQ fun Q1478 qn1478 qe1478 qx1478 qr1478 => ?_
        refine COk.seqQ fun Q1479 qn1479 qx1479 qr1479 => ?_
        refine gor hn ?_
        refine idxK hx15 ?_
        refine qn1479 _ _ ?_
        refine COk.seqQ fun Q1480 qn1480 qx1480 qr1480 => ?_
        refine COk.seqQ fun Q1481 qn1481 qx1481 qr1481 => ?_
        refine gor hn ?_
        refine qn1481 _ _ ?_
        refine goc hn ?_
        refine bselM h19 (fun hb21 h19 => ?_) (fun hb21 h19 => ?_)
        · refine goe hn ?_
          refine qx1480 _ _ _ ?_
          refine qe1478 _ _ ?_
          refine qn1477 _ _ ?_
          obtain rfl := Option.some.inj h19
          refine EOk.done ?_
          exact ⟨⟨_, rfl⟩, [], trivial, ⟨⟨rfl, rfl, rfl, (by repeat (first | exact trivial | exact rfl | (refine And.intro ?_ ?_))), rfl, rfl, trivial⟩, ⟨rfl, trivial⟩, rfl, rfl⟩⟩
        · refine gok hn ?_
          refine qn1480 _ _ ?_
          refine COk.seqQ fun Q1482 qn1482 qx1482 qr1482 => ?_
          refine gor hn ?_
          refine lenM (fun hl22 => ?_)
          refine qn1482 _ _ ?_
          obtain ⟨o30, h31, h19⟩ := bindM h19
          refine COk.joinR (ι := { s : (Int × Int) // o30 = s }) (fun s => [(3, .ptr 3 0), (6, .int s.1.1), (7, .int s.1.2), (12, .sl 4 (List.map eTl a0)), (13, .int (a0.length : Int)), (14, .int (k2 : Int))]) (fun s => [(3, .box (eSt a1) 24)]) (fun Q1522 qn1522 qx1522 qr1522 => ?_) (by intro s; rw [hn]; rfl) ?_
          · refine COk.blkQ fun Q1523 qn1523 qe1523 qx1523 qr1523 => ?_
            refine COk.loopQ (ι := { q : ((List Ln) × Nat × Int × Int) // q.1 = x14.classes.drop q.2.1 ∧ tally_Most_l2 N q.1 q.2.1 q.2.2.1 q.2.2.2 = some o30 }) (fun q => [(3, .ptr 3 0), (6, .int q.1.2.2.1), (7, .int q.1.2.2.2), (12, .sl 4 (List.map eTl a0)), (13, .int (a0.length : Int)), (14, .int (k2 : Int)), (23, .sl 2 (List.map eLn x14.classes)), (24, .int (x14.classes.length : Int)), (25, .int (q.1.2.1 : Int))]) (fun q => [(3, .box (eSt a1) 24)]) (fun q => q.1.1.length) ⟨(x14.classes, 0, v3, v4), rfl, h31⟩ [] ⟨⟨rfl, rfl, rfl, (by repeat (first | exact trivial | exact rfl | (refine And.intro ?_ ?_))), rfl, rfl, (by repeat (first | exact trivial | exact rfl | (refine And.intro ?_ ?_))), rfl, rfl, trivial⟩, ⟨rfl, trivial⟩, rfl, rfl⟩ (by intro q; rw [hn]; rfl) ?_
            rintro ⟨⟨rest_, k23, v24, v25⟩, hd33, h31⟩ Q1524 qn1524 qx1524 qr1524
            replace hd33 : rest_ = x14.classes.drop k23 := hd33
            rcases rest_ with _ | ⟨x35, rest32⟩
            · have hlt37 := restNil hd33
              replace h31 := (tally_Most_l2.eq_1 _ _ _ _).symm.trans h31
              refine COk.seqQ fun Q1525 qn1525 qx1525 qr1525 => ?_
              refine gor hn ?_
              refine qn1525 _ _ ?_
              refine COk.seqQ fun Q1526 qn1526 qx1526 qr1526 => ?_
              refine goc hn ?_
              refine bselF hlt37 ?_
              refine goe hn ?_
              refine qx1526 _ _ _ ?_
              refine qx1524 _ _ _ ?_
              refine qe1523 _ _ ?_
              refine qn1522 _ _ ?_
              obtain rfl := Option.some.inj h31
              refine EOk.done ?_
              exact ⟨⟨_, rfl⟩, [], trivial, ⟨⟨rfl, rfl, rfl, (by repeat (first | exact trivial | exact rfl | (refine And.intro ?_ ?_))), rfl, rfl, trivial⟩, ⟨rfl, trivial⟩, rfl, rfl⟩⟩
            · obtain ⟨hx36, hd2, hlt37⟩ := restCons hd33
              replace h31 := (tally_Most_l2.eq_2 _ _ _ _ _ _).symm.trans h31
              refine COk.seqQ fun Q1527 qn1527 qx1527 qr1527 => ?_
              refine gor hn ?_
              refine qn1527 _ _ ?_
              refine COk.seqQ fun Q1528 qn1528 qx1528 qr1528 => ?_
              refine goc hn ?_
              refine bselT hlt37 ?_
              refine gok hn ?_
              refine qn1528 _ _ ?_
              refine COk.seqQ fun Q1529 qn1529 qx1529 qr1529 => ?_
              refine COk.blkQ fun Q1535 qn1535 qe1535 qx1535 qr1535 => ?_
              refine COk.seqQ fun Q1536 qn1536 qx1536 qr1536 => ?_
              refine gor hn ?_
              refine idxK hx36 ?_
              refine qn1536 _ _ ?_
              refine COk.seqQ fun Q1537 qn1537 qx1537 qr1537 => ?_
              obtain ⟨o40, h39, h31⟩ := bindM h31
              refine COk.joinR (ι := { s : Bool // o40 = s }) (fun s => [(3, .ptr 3 0), (6, .int v24), (7, .int v25), (11, .ptr 11 0), (12, .sl 4 (List.map eTl a0)), (13, .int (a0.length : Int)), (14, .int (k2 : Int)), (23, .sl 2 (List.map eLn x14.classes)), (24, .int (x14.classes.length : Int)), (25, .int (k23 : Int)), (48, .bool s.1)]) (fun s => [(3, .box (eSt a1) 24), (11, .box (eLn x35) 29)]) (fun Q1538 qn1538 qx1538 qr1538 => ?_) (by intro s; rw [hn]; rfl) ?_
              · refine gor hn ?_
                refine bselM h39 (fun hb41 h39 => ?_) (fun hb41 h39 => ?_)
                · refine bselT hb41 ?_
                  refine bselT hb41 ?_
                  refine bselT hb41 ?_
                  refine bselT hb41 ?_
                  refine bselT hb41 ?_
                  refine bselT hb41 ?_
                  refine bselT hb41 ?_
                  refine bselT hb41 ?_
                  refine qn1538 _ _ ?_
                  obtain rfl := Option.some.inj h39
                  refine EOk.done ?_
                  exact ⟨⟨_, rfl⟩, [], trivial, ⟨⟨rfl, rfl, rfl, rfl, (by repeat (first | exact trivial | exact rfl | (refine And.intro ?_ ?_))), rfl, rfl, (by repeat (first | exact trivial | exact rfl | (refine And.intro ?_ ?_))), rfl, rfl, rfl, trivial⟩, ⟨rfl, rfl, trivial⟩, rfl, rfl⟩⟩
                · refine bselF hb41 ?_
                  refine bselF hb41 ?_
                  refine bselF hb41 ?_
                  refine bselF hb41 ?_
                  refine bselM h39 (fun hb42 h39 => ?_) (fun hb42 h39 => ?_)
                  · refine bselT hb42 ?_
                    refine bselF hb41 ?_
                    refine bselT hb42 ?_
                    refine bselF hb41 ?_
                    refine bselM h39 (fun hb43 h39 => ?_) (fun hb43 h39 => ?_)
                    · refine bselT hb43 ?_
                      refine bselT hb43 ?_
                      refine bselT hb43 ?_
                      refine bselF hb41 ?_
                      refine bselT hb43 ?_
                      refine bselF hb41 ?_
                      refine qn1538 _ _ ?_
                      obtain rfl := Option.some.inj h39
                      refine EOk.done ?_
                      exact ⟨⟨_, rfl⟩, [], trivial, ⟨⟨rfl, rfl, rfl, rfl, (by repeat (first | exact trivial | exact rfl | (refine And.intro ?_ ?_))), rfl, rfl, (by repeat (first | exact trivial | exact rfl | (refine And.intro ?_ ?_))), rfl, rfl, rfl, trivial⟩, ⟨rfl, rfl, trivial⟩, rfl, rfl⟩⟩
                    · refine bselF hb43 ?_
                      refine bselF hb43 ?_
                      refine bselF hb43 ?_
                      refine bselF hb41 ?_
                      refine bselF hb43 ?_
                      refine bselF hb41 ?_
                      refine qn1538 _ _ ?_
                      obtain rfl := Option.some.inj h39
                      refine EOk.done ?_
                      exact ⟨⟨_, rfl⟩, [], trivial, ⟨⟨rfl, rfl, rfl, rfl, (by repeat (first | exact trivial | exact rfl | (refine And.intro ?_ ?_))), rfl, rfl, (by repeat (first | exact trivial | exact rfl | (refine And.intro ?_ ?_))), rfl, rfl, rfl, trivial⟩, ⟨rfl, rfl, trivial⟩, rfl, rfl⟩⟩
                  · refine bselF hb42 ?_
                    refine bselF hb41 ?_
                    refine bselF hb42 ?_
                    refine bselF hb41 ?_
                    refine bselF hb41 ?_
                    refine bselF hb41 ?_
                    refine qn1538 _ _ ?_
                    obtain rfl := Option.some.inj h39
                    refine EOk.done ?_
                    exact ⟨⟨_, rfl⟩, [], trivial, ⟨⟨rfl, rfl, rfl, rfl, (by repeat (first | exact trivial | exact rfl | (refine And.intro ?_ ?_))), rfl, rfl, (by repeat (first | exact trivial | exact rfl | (refine And.intro ?_ ?_))), rfl, rfl, rfl, trivial⟩, ⟨rfl, rfl, trivial⟩, rfl, rfl⟩⟩
              rintro ⟨v38, hv_⟩
              replace hv_ := hv_.symm
              subst hv_
              refine qn1537 _ _ ?_
              obtain ⟨o47, h46, h31⟩ := bindM h31
              refine COk.joinR (ι := { s : (Int × Int) // o47 = s }) (fun s => [(3, .ptr 3 0), (6, .int s.1.1), (7, .int s.1.2), (12, .sl 4 (List.map eTl a0)), (13, .int (a0.length : Int)), (14, .int (k2 : Int)), (23, .sl 2 (List.map eLn x14.classes)), (24, .int (x14.classes.length : Int)), (25, .int (k23 : Int))]) (fun s => [(3, .box (eSt a1) 24)]) (fun Q1539 qn1539 qx1539 qr1539 => ?_) (by intro s; rw [hn]; rfl) ?_
              · refine goc hn ?_
                refine bselM h46 (fun hb48 h46 => ?_) (fun hb48 h46 => ?_)
                · refine god hn (by kernel_rfl) ?_
                  refine qn1539 _ _ ?_
                  obtain rfl := Option.some.inj h46
                  refine EOk.done ?_
                  exact ⟨⟨_, rfl⟩, [], trivial, ⟨⟨rfl, rfl, rfl, (by repeat (first | exact trivial | exact rfl | (refine And.intro ?_ ?_))), rfl, rfl, (by repeat (first | exact trivial | exact rfl | (refine And.intro ?_ ?_))), rfl, rfl, trivial⟩, ⟨rfl, trivial⟩, rfl, rfl⟩⟩
                · refine gok hn ?_
                  refine qn1539 _ _ ?_
                  obtain rfl := Option.some.inj h46
                  refine EOk.done ?_
                  exact ⟨⟨_, rfl⟩, [], trivial, ⟨⟨rfl, rfl, rfl, (by repeat (first | exact trivial | exact rfl | (refine And.intro ?_ ?_))), rfl, rfl, (by repeat (first | exact trivial | exact rfl | (refine And.intro ?_ ?_))), rfl, rfl, trivial⟩, ⟨rfl, trivial⟩, rfl, rfl⟩⟩
              rintro ⟨⟨v44, v45⟩, rfl⟩
              refine qn1535 _ _ ?_
              refine qn1529 _ _ ?_
              refine gor hn ?_
              refine Or.inl (And.intro (inrK hx36 hl22) ?_)
              refine qn1524 _ _ ?_
              refine EOk.done ?_
              exact ⟨⟨(rest32, k23 + 1, v44, v45), hd2, h31⟩, [], by show rest32.length < rest32.length + 1; omega, ⟨⟨rfl, rfl, rfl, (by repeat (first | exact trivial | exact rfl | (refine And.intro ?_ ?_))), rfl, rfl, (by repeat (first | exact trivial | exact rfl | (refine And.intro ?_ ?_))), rfl, rfl, trivial⟩, ⟨rfl, trivial⟩, rfl, rfl⟩⟩
          rintro ⟨⟨v28, v29⟩, rfl⟩
          refine qn1478 _ _ ?_
          refine qn1477 _ _ ?_
          obtain rfl := Option.some.inj h19
          refine EOk.done ?_
          exact ⟨⟨_, rfl⟩, [], trivial, ⟨⟨rfl, rfl, rfl, (by repeat (first | exact trivial | exact rfl | (refine And.intro ?_ ?_))), rfl, rfl, trivial⟩, ⟨rfl, trivial⟩, rfl, rfl⟩⟩
      rintro ⟨⟨v17, v18⟩, rfl⟩
      refine qn1352 _ _ ?_
      refine gor hn ?_
      refine Or.inl (And.intro (inrK hx15 hl1) ?_)
      refine qn1347 _ _ ?_
      refine EOk.done ?_
      exact ⟨⟨(rest11, k2 + 1, v17, v18), hd2, h10⟩, [], by show rest11.length < rest11.length + 1; omega, ⟨⟨rfl, rfl, rfl, (by repeat (first | exact trivial | exact rfl | (refine And.intro ?_ ?_))), rfl, rfl, trivial⟩, ⟨rfl, trivial⟩, rfl, rfl⟩⟩
  rintro ⟨⟨v7, v8⟩, rfl⟩
  refine qn773 _ _ ?_
  refine COk.seqQ fun Q1540 qn1540 qx1540 qr1540 => ?_
  refine gor hn ?_
  refine qn1540 _ _ ?_
  refine got hn ?_
  obtain rfl := Option.some.inj h
  exact ⟨[], _, rfl, (by repeat (first | exact trivial | exact rfl | (refine And.intro ?_ ?_))), trivial, rfl, rfl, rfl, rfl, rfl⟩

/- slices.Clone[[]api.Line,api.Line] -/
set_option maxRecDepth 100000 in
theorem slices_Clone_Ln_ok (N : Nat) (l : List Ln) (r : List Ln) (h : slices_Clone_Ln N l = some r) : Spec Try.prog 59 [] [.sl 2 (List.map eLn l)] (.own 0) [(0, .row 2 (List.map eLn r) 29)] [0] := by
  obtain ⟨hf, h⟩ := guardM h
  obtain rfl := Option.some.inj h
  refine Spec.of tabOk Try.func59 rfl Try.ntmps59 (by kernel_rfl) rfl rfl rfl fun Γ hn => ?_
  refine gos hn ?_
  refine COk.seq (COk.seq (COk.ops (goo hn 1 ?_)))
  refine OOk.gh (Gh.nil 3 rfl) ?_
  rintro ⟨b, hb⟩
  refine goo hn 1 (OOk.done ?_)
  (repeat (first | refine gos hn ?_ | refine gor hn ?_ | refine gob hn ?_ | refine goc hn ?_ | refine goe hn ?_ | refine gok hn ?_ | refine got hn ?_))
  refine bsel_b (fun hb1 => ?_) (fun hb1 => ?_)
  · have e : l = [] := by simpa using hb hb1
    subst e
    refine gos hn ?_
    refine COk.nilrow 2 5 2 29 rfl rfl rfl ?_
    (repeat (first | refine gos hn ?_ | refine gor hn ?_ | refine gob hn ?_ | refine goc hn ?_ | refine goe hn ?_ | refine gok hn ?_ | refine got hn ?_))
    exact ⟨[(0, 5)], _, rfl, rfl, ⟨rfl, trivial⟩, rfl, rfl, rfl, rfl, rfl⟩
  · (repeat (first | refine gos hn ?_ | refine gor hn ?_ | refine gob hn ?_ | refine goc hn ?_ | refine goe hn ?_ | refine gok hn ?_ | refine got hn ?_))
    refine Exists.intro [] (And.intro trivial ?_)
    refine And.intro (by have := Nat.le_of_ble_eq_true hf; simpa using this) ?_
    refine Exists.intro (List.map eLn l) (And.intro (leLs_refl _) ?_)
    (repeat (first | refine gos hn ?_ | refine gor hn ?_ | refine gob hn ?_ | refine goc hn ?_ | refine goe hn ?_ | refine gok hn ?_ | refine got hn ?_))
    exact ⟨[(0, 7)], _, rfl, rfl, ⟨rfl, trivial⟩, rfl, rfl, rfl, rfl, rfl⟩

/- tally.Own -/
set_option maxRecDepth 100000 in
set_option maxHeartbeats 1000000 in
theorem tally_Own_ok (N : Nat) (a0 : (List Tl)) (r : (List Tl)) (h : tally_Own N a0 = some r) : Spec Try.prog 19 [] [.sl 4 (List.map eTl a0)] (.own 0) [(0, .row 4 (List.map eTl r) 27)] [0] := by
  refine Spec.of tabOk Try.func19 rfl Try.ntmps19 (by kernel_rfl) rfl rfl rfl fun Γ hn => ?_
  unfold tally_Own at h
  refine COk.seqQ fun Q56 qn56 qx56 qr56 => ?_
  refine gor hn ?_
  refine qn56 _ _ ?_
  refine COk.seqQ fun Q57 qn57 qx57 qr57 => ?_
  refine gor hn ?_
  refine qn57 _ _ ?_
  refine COk.seqQ fun Q58 qn58 qx58 qr58 => ?_
  refine COk.seqQ fun Q59 qn59 qx59 qr59 => ?_
  refine gor hn ?_
  refine lenM (fun hl1 => ?_)
  refine qn59 _ _ ?_
  refine COk.nilrow 3 203 4 27 rfl rfl rfl ?_
  obtain ⟨o6, h7, h⟩ := bindM h
  refine COk.joinR (ι := { s : (List Tl) // o6 = s }) (fun s => [(3, .own 203)]) (fun s => [(203, .row 4 (List.map eTl s.1) 27)]) (fun Q96 qn96 qx96 qr96 => ?_) (by intro s; rw [hn]; rfl) ?_
  · refine COk.blkQ fun Q97 qn97 qe97 qx97 qr97 => ?_
    refine COk.loopQ (ι := { q : ((List Tl) × Nat × (List Tl)) // q.1 = a0.drop q.2.1 ∧ tally_Own_l1 N q.1 q.2.1 q.2.2 = some o6 }) (fun q => [(3, .own 203), (6, .sl 4 (List.map eTl a0)), (7, .int (a0.length : Int)), (8, .int (q.1.2.1 : Int))]) (fun q => [(203, .row 4 (List.map eTl q.1.2.2) 27)]) (fun q => q.1.1.length) ⟨(a0, 0, ([] : List Tl)), rfl, h7⟩ [] ⟨⟨rfl, (by repeat (first | exact trivial | exact rfl | (refine And.intro ?_ ?_))), rfl, rfl, trivial⟩, ⟨rfl, trivial⟩, rfl, rfl⟩ (by intro q; rw [hn]; rfl) ?_
    rintro ⟨⟨rest_, k2, v3⟩, hd9, h7⟩ Q98 qn98 qx98 qr98
    replace hd9 : rest_ = a0.drop k2 := hd9
    rcases rest_ with _ | ⟨x11, rest8⟩
    · have hlt13 := restNil hd9
      replace h7 := (tally_Own_l1.eq_1 _ _ _).symm.trans h7
      refine COk.seqQ fun Q99 qn99 qx99 qr99 => ?_
      refine gor hn ?_
      refine qn99 _ _ ?_
      refine COk.seqQ fun Q100 qn100 qx100 qr100 => ?_
      refine goc hn ?_
      refine bselF hlt13 ?_
      refine goe hn ?_
      refine qx100 _ _ _ ?_
      refine qx98 _ _ _ ?_
      refine qe97 _ _ ?_
      refine qn96 _ _ ?_
      obtain rfl := Option.some.inj h7
      refine EOk.done ?_
      exact ⟨⟨_, rfl⟩, [], trivial, ⟨⟨rfl, trivial⟩, ⟨rfl, trivial⟩, rfl, rfl⟩⟩
    · obtain ⟨hx12, hd2, hlt13⟩ := restCons hd9
      replace h7 := (tally_Own_l1.eq_2 _ _ _ _ _).symm.trans h7
      refine COk.seqQ fun Q101 qn101 qx101 qr101 => ?_
      refine gor hn ?_
      refine qn101 _ _ ?_
      refine COk.seqQ fun Q102 qn102 qx102 qr102 => ?_
      refine goc hn ?_
      refine bselT hlt13 ?_
      refine gok hn ?_
      refine qn102 _ _ ?_
      refine COk.seqQ fun Q103 qn103 qx103 qr103 => ?_
      refine COk.blkQ fun Q107 qn107 qe107 qx107 qr107 => ?_
      refine COk.seqQ fun Q108 qn108 qx108 qr108 => ?_
      refine gor hn ?_
      refine idxK hx12 ?_
      refine qn108 _ _ ?_
      refine COk.seqQ fun Q109 qn109 qx109 qr109 => ?_
      refine gor hn ?_
      obtain ⟨r14, hr15, h7⟩ := bindM h7
      show CallOk Try.prog _ _ _ _
      refine CallOk.as ((slices_Clone_Ln_ok N x11.classes r14 hr15).sw 0 14) (by repeat (first | exact trivial | exact rfl | (refine And.intro ?_ ?_))) trivial rfl ?_
      refine qn109 _ _ ?_
      refine gor hn ?_
      refine Exists.intro (List.map eTl [(⟨x11.site, r14⟩ : Tl)]) (And.intro (by repeat (first | exact trivial | exact rfl | (refine And.intro ?_ ?_))) ?_)
      obtain ⟨hg16, h7⟩ := guardM h7
      refine appM (l2 := [(⟨x11.site, r14⟩ : Tl)]) hg16 (leLs_refl _) ?_
      refine qn107 _ _ ?_
      refine qn103 _ _ ?_
      refine gor hn ?_
      refine Or.inl (And.intro (inrK hx12 hl1) ?_)
      refine qn98 _ _ ?_
      refine EOk.done ?_
      exact ⟨⟨(rest8, k2 + 1, (v3 ++ [(⟨x11.site, r14⟩ : Tl)])), hd2, h7⟩, [(203, 19)], by show rest8.length < rest8.length + 1; omega, ⟨⟨rfl, (by repeat (first | exact trivial | exact rfl | (refine And.intro ?_ ?_))), rfl, rfl, trivial⟩, ⟨rfl, trivial⟩, rfl, rfl⟩⟩
  rintro ⟨v5, hv_⟩
  replace hv_ := hv_.symm
  subst hv_
  refine qn58 _ _ ?_
  refine COk.seqQ fun Q110 qn110 qx110 qr110 => ?_
  refine gor hn ?_
  refine qn110 _ _ ?_
  refine got hn ?_
  obtain rfl := Option.some.inj h
  exact ⟨[(0, 203)], _, rfl, (by repeat (first | exact trivial | exact rfl | (refine And.intro ?_ ?_))), ⟨rfl, trivial⟩, rfl, rfl, rfl, rfl, rfl⟩

/- slices.IndexFunc[[]api.Tally,api.Tally] -/
set_option maxRecDepth 100000 in
set_option maxHeartbeats 1000000 in
theorem slices_IndexFunc_api_Tally_api_Tally_c1_ok (N : Nat) (a0 : (List Tl)) (g1 : Tl → Option Bool) {K1 : Nat} {c1_0 : List AV} (hg1 : ∀ x0_ y_, g1 x0_ = some y_ → Spec Try.prog K1 [] [.agg (eTl x0_), .fp c1_0] (.bool y_) [] []) (r : Int) (h : slices_IndexFunc_api_Tally_api_Tally_c1 N a0 g1 = some r) : Spec Try.prog 55 [] [.sl 4 (List.map eTl a0), .fn K1 [.fp c1_0]] (.int r) [] [] := by
  refine Spec.of tabOk Try.func55 rfl Try.ntmps55 (by kernel_rfl) rfl rfl rfl fun Γ hn => ?_
  unfold slices_IndexFunc_api_Tally_api_Tally_c1 at h
  refine COk.seqQ fun Q49 qn49 qx49 qr49 => ?_
  refine gor hn ?_
  refine qn49 _ _ ?_
  refine COk.seqQ fun Q50 qn50 qx50 qr50 => ?_
  refine COk.seqQ fun Q51 qn51 qx51 qr51 => ?_
  refine gor hn ?_
  refine lenM (fun hl1 => ?_)
  refine qn51 _ _ ?_
  obtain ⟨o3, h4, h⟩ := bindM h
  refine COk.joinR (ι := { s : Unit // o3 = Ctl.next s }) (fun s => []) (fun s => []) (fun Q78 qn78 qx78 qr78 => ?_) (by intro s; rw [hn]; rfl) ?_
  · refine COk.blkQ fun Q79 qn79 qe79 qx79 qr79 => ?_
    refine COk.loopQ (ι := { q : ((List Tl) × Nat) // q.1 = a0.drop q.2 ∧ slices_IndexFunc_api_Tally_api_Tally_c1_l1 N g1 q.1 q.2 = some o3 }) (fun q => [(0, .sl 4 (List.map eTl a0)), (1, .fn K1 [.fp c1_0]), (7, .int (a0.length : Int)), (8, .int (q.1.2 : Int))]) (fun q => []) (fun q => q.1.1.length) ⟨(a0, 0), rfl, h4⟩ [] ⟨⟨(by repeat (first | exact trivial | exact rfl | (refine And.intro ?_ ?_))), rfl, rfl, rfl, trivial⟩, trivial, rfl, rfl⟩ (by intro q; rw [hn]; rfl) ?_
    rintro ⟨⟨rest_, k2⟩, hd6, h4⟩ Q80 qn80 qx80 qr80
    replace hd6 : rest_ = a0.drop k2 := hd6
    rcases rest_ with _ | ⟨x8, rest5⟩
    · have hlt10 := restNil hd6
      replace h4 := (slices_IndexFunc_api_Tally_api_Tally_c1_l1.eq_1 _ _ _).symm.trans h4
      refine COk.seqQ fun Q81 qn81 qx81 qr81 => ?_
      refine gor hn ?_
      refine qn81 _ _ ?_
      refine COk.seqQ fun Q82 qn82 qx82 qr82 => ?_
      refine goc hn ?_
      refine bselF hlt10 ?_
      refine goe hn ?_
      refine qx82 _ _ _ ?_
      refine qx80 _ _ _ ?_
      refine qe79 _ _ ?_
      refine qn78 _ _ ?_
      obtain rfl := Option.some.inj h4
      refine EOk.done ?_
      exact ⟨⟨_, rfl⟩, [], trivial, ⟨trivial, trivial, rfl, rfl⟩⟩
    · obtain ⟨hx9, hd2, hlt10⟩ := restCons hd6
      replace h4 := (slices_IndexFunc_api_Tally_api_Tally_c1_l1.eq_2 _ _ _ _ _).symm.trans h4
      refine COk.seqQ fun Q83 qn83 qx83 qr83 => ?_
      refine gor hn ?_
      refine qn83 _ _ ?_
      refine COk.seqQ fun Q84 qn84 qx84 qr84 => ?_
      refine goc hn ?_
      refine bselT hlt10 ?_
      refine gok hn ?_
      refine qn84 _ _ ?_
      refine COk.seqQ fun Q85 qn85 qx85 qr85 => ?_
      refine COk.blkQ fun Q91 qn91 qe91 qx91 qr91 => ?_
      refine COk.seqQ fun Q92 qn92 qx92 qr92 => ?_
      refine gor hn ?_
      refine qn92 _ _ ?_
      refine COk.seqQ fun Q93 qn93 qx93 qr93 => ?_
      refine gor hn ?_
      refine idxK hx9 ?_
      obtain ⟨r11, hr12, h4⟩ := bindM h4
      show CallOk Try.prog _ _ _ _
      refine CallOk.as (hg1 _ _ hr12) (by repeat (first | exact trivial | exact rfl | (refine And.intro ?_ ?_))) trivial rfl ?_
      refine qn93 _ _ ?_
      refine goc hn ?_
      refine bselM h4 (fun hb13 h4 => ?_) (fun hb13 h4 => ?_)
      · refine COk.seqQ fun Q95 qn95 qx95 qr95 => ?_
        refine gor hn ?_
        refine qn95 _ _ ?_
        refine got hn ?_
        refine qr91 _ _ ?_
        refine qr85 _ _ ?_
        refine qr80 _ _ ?_
        refine qr79 _ _ ?_
        refine qr78 _ _ ?_
        refine qr50 _ _ ?_
        obtain rfl := Option.some.inj h4
        obtain rfl := Option.some.inj h
        exact ⟨[], _, rfl, (by repeat (first | exact trivial | exact rfl | (refine And.intro ?_ ?_))), trivial, rfl, rfl, rfl, rfl, rfl⟩
      · refine gok hn ?_
        refine qn91 _ _ ?_
        refine qn85 _ _ ?_
        refine gor hn ?_
        refine Or.inl (And.intro (inrK hx9 hl1) ?_)
        refine qn80 _ _ ?_
        refine EOk.done ?_
        exact ⟨⟨(rest5, k2 + 1), hd2, h4⟩, [], by show rest5.length < rest5.length + 1; omega, ⟨⟨(by repeat (first | exact trivial | exact rfl | (refine And.intro ?_ ?_))), rfl, rfl, rfl, trivial⟩, trivial, rfl, rfl⟩⟩
  rintro ⟨⟨⟩, rfl⟩
  refine qn50 _ _ ?_
  refine COk.seqQ fun Q96 qn96 qx96 qr96 => ?_
  refine gor hn ?_
  refine qn96 _ _ ?_
  refine got hn ?_
  obtain rfl := Option.some.inj h
  exact ⟨[], _, rfl, (by repeat (first | exact trivial | exact rfl | (refine And.intro ?_ ?_))), trivial, rfl, rfl, rfl, rfl, rfl⟩

/- tally.Add$1 -/
set_option maxRecDepth 100000 in
set_option maxHeartbeats 1000000 in
theorem tally_Add_1_ok (N : Nat) (a0 : Tl) (b0 : St) (r : Bool) (h : tally_Add_1 N a0 b0 = some r) : Spec Try.prog 56 [] [.agg (eTl a0), .fp (eSt b0)] (.bool r) [] [] := by
  refine Spec.of tabOk Try.func56 rfl Try.ntmps56 (by kernel_rfl) rfl rfl rfl fun Γ hn => ?_
  unfold tally_Add_1 at h
  refine COk.seqQ fun Q3 qn3 qx3 qr3 => ?_
  refine gor hn ?_
  refine qn3 _ _ ?_
  refine COk.seqQ fun Q4 qn4 qx4 qr4 => ?_
  refine gor hn ?_
  refine qn4 _ _ ?_
  refine got hn ?_
  obtain rfl := Option.some.inj h
  exact ⟨[], _, rfl, (by repeat (first | exact trivial | exact rfl | (refine And.intro ?_ ?_))), trivial, rfl, rfl, rfl, rfl, rfl⟩

/- slices.IndexFunc[[]api.Line,api.Line] -/
set_option maxRecDepth 100000 in
set_option maxHeartbeats 1000000 in
theorem slices_IndexFunc_api_Line_api_Line_c1_ok (N : Nat) (a0 : (List Ln)) (g1 : Ln → Option Bool) {K1 : Nat} {c1_0 : List AV} (hg1 : ∀ x0_ y_, g1 x0_ = some y_ → Spec Try.prog K1 [] [.agg (eLn x0_), .fp c1_0] (.bool y_) [] []) (r : Int) (h : slices_IndexFunc_api_Line_api_Line_c1 N a0 g1 = some r) : Spec Try.prog 57 [] [.sl 2 (List.map eLn a0), .fn K1 [.fp c1_0]] (.int r) [] [] := by
  refine Spec.of tabOk Try.func57 rfl Try.ntmps57 (by kernel_rfl) rfl rfl rfl fun Γ hn => ?_
  unfold slices_IndexFunc_api_Line_api_Line_c1 at h
  refine COk.seqQ fun Q49 qn49 qx49 qr49 => ?_
  refine gor hn ?_
  refine qn49 _ _ ?_
  refine COk.seqQ fun Q50 qn50 qx50 qr50 => ?_
  refine COk.seqQ fun Q51 qn51 qx51 qr51 => ?_
  refine gor hn ?_
  refine lenM (fun hl1 => ?_)
  refine qn51 _ _ ?_
  obtain ⟨o3, h4, h⟩ := bindM h
  refine COk.joinR (ι := { s : Unit // o3 = Ctl.next s }) (fun s => []) (fun s => []) (fun Q78 qn78 qx78 qr78 => ?_) (by intro s; rw [hn]; rfl) ?_
  · refine COk.blkQ fun Q79 qn79 qe79 qx79 qr79 => ?_
    refine COk.loopQ (ι := { q : ((List Ln) × Nat) // q.1 = a0.drop q.2 ∧ slices_IndexFunc_api_Line_api_Line_c1_l1 N g1 q.1 q.2 = some o3 }) (fun q => [(0, .sl 2 (List.map eLn a0)), (1, .fn K1 [.fp c1_0]), (7, .int (a0.length : Int)), (8, .int (q.1.2 : Int))]) (fun q => []) (fun q => q.1.1.length) ⟨(a0, 0), rfl, h4⟩ [] ⟨⟨(by repeat (first | exact trivial | exact rfl | (refine And.intro ?_ ?_))), rfl, rfl, rfl, trivial⟩, trivial, rfl, rfl⟩ (by intro q; rw [hn]; rfl) ?_
    rintro ⟨⟨rest_, k2⟩, hd6, h4⟩ Q80 qn80 qx80 qr80
    replace hd6 : rest_ = a0.drop k2 := hd6
    rcases rest_ with _ | ⟨x8, rest5⟩
    · have hlt10 := restNil hd6
      replace h4 := (slices_IndexFunc_api_Line_api_Line_c1_l1.eq_1 _ _ _).symm.trans h4
      refine COk.seqQ fun Q81 qn81 qx81 qr81 => ?_
      refine gor hn ?_
      refine qn81 _ _ ?_
      refine COk.seqQ fun Q82 qn82 qx82 qr82 => ?_
      refine goc hn ?_
      refine bselF hlt10 ?_
      refine goe hn ?_
      refine qx82 _ _ _ ?_
      refine qx80 _ _ _ ?_
      refine qe79 _ _ ?_
      refine qn78 _ _ ?_
      obtain rfl := Option.some.inj h4
      refine EOk.done ?_
      exact ⟨⟨_, rfl⟩, [], trivial, ⟨trivial, trivial, rfl, rfl⟩⟩
    · obtain ⟨hx9, hd2, hlt10⟩ := restCons hd6
      replace h4 := (slices_IndexFunc_api_Line_api_Line_c1_l1.eq_2 _ _ _ _ _).symm.trans h4
      refine COk.seqQ fun Q83 qn83 qx83 qr83 => ?_
      refine gor hn ?_
      refine qn83 _ _ ?_
      refine COk.seqQ fun Q84 qn84 qx84 qr84 => ?_
      refine goc hn ?_
      refine bselT hlt10 ?_
      refine gok hn ?_
      refine qn84 _ _ ?_
      refine COk.seqQ fun Q85 qn85 qx85 qr85 => ?_
      refine COk.blkQ fun Q91 qn91 qe91 qx91 qr91 => ?_
      refine COk.seqQ fun Q92 qn92 qx92 qr92 => ?_
      refine gor hn ?_
      refine qn92 _ _ ?_
      refine COk.seqQ fun Q93 qn93 qx93 qr93 => ?_
      refine gor hn ?_
      refine idxK hx9 ?_
      obtain ⟨r11, hr12, h4⟩ := bindM h4
      show CallOk Try.prog _ _ _ _
      refine CallOk.as (hg1 _ _ hr12) (by repeat (first | exact trivial | exact rfl | (refine And.intro ?_ ?_))) trivial rfl ?_
      refine qn93 _ _ ?_
      refine goc hn ?_
      refine bselM h4 (fun hb13 h4 => ?_) (fun hb13 h4 => ?_)
      · refine COk.seqQ fun Q95 qn95 qx95 qr95 => ?_
        refine gor hn ?_
        refine qn95 _ _ ?_
        refine got hn ?_
        refine qr91 _ _ ?_
        refine qr85 _ _ ?_
        refine qr80 _ _ ?_
        refine qr79 _ _ ?_
        refine qr78 _ _ ?_
        refine qr50 _ _ ?_
        obtain rfl := Option.some.inj h4
        obtain rfl := Option.some.inj h
        exact ⟨[], _, rfl, (by repeat (first | exact trivial | exact rfl | (refine And.intro ?_ ?_))), trivial, rfl, rfl, rfl, rfl, rfl⟩
      · refine gok hn ?_
        refine qn91 _ _ ?_
        refine qn85 _ _ ?_
        refine gor hn ?_
        refine Or.inl (And.intro (inrK hx9 hl1) ?_)
        refine qn80 _ _ ?_
        refine EOk.done ?_
        exact ⟨⟨(rest5, k2 + 1), hd2, h4⟩, [], by show rest5.length < rest5.length + 1; omega, ⟨⟨(by repeat (first | exact trivial | exact rfl | (refine And.intro ?_ ?_))), rfl, rfl, rfl, trivial⟩, trivial, rfl, rfl⟩⟩
  rintro ⟨⟨⟩, rfl⟩
  refine qn50 _ _ ?_
  refine COk.seqQ fun Q96 qn96 qx96 qr96 => ?_
  refine gor hn ?_
  refine qn96 _ _ ?_
  refine got hn ?_
  obtain rfl := Option.some.inj h
  exact ⟨[], _, rfl, (by repeat (first | exact trivial | exact rfl | (refine And.intro ?_ ?_))), trivial, rfl, rfl, rfl, rfl, rfl⟩

/- tally.Add$2 -/
set_option maxRecDepth 100000 in
set_option maxHeartbeats 1000000 in
theorem tally_Add_2_ok (N : Nat) (a0 : Ln) (b0 : Int) (r : Bool) (h : tally_Add_2 N a0 b0 = some r) : Spec Try.prog 58 [] [.agg (eLn a0), .fp [.int b0]] (.bool r) [] [] := by
  refine Spec.of tabOk Try.func58 rfl Try.ntmps58 (by kernel_rfl) rfl rfl rfl fun Γ hn => ?_
  unfold tally_Add_2 at h
  refine COk.seqQ fun Q3 qn3 qx3 qr3 => ?_
  refine gor hn ?_
  refine qn3 _ _ ?_
  refine COk.seqQ fun Q4 qn4 qx4 qr4 => ?_
  refine gor hn ?_
  refine qn4 _ _ ?_
  refine got hn ?_
  obtain rfl := Option.some.inj h
  exact ⟨[], _, rfl, (by repeat (first | exact trivial | exact rfl | (refine And.intro ?_ ?_))), trivial, rfl, rfl, rfl, rfl, rfl⟩

/- value.Wrong -/
set_option maxRecDepth 100000 in
set_option maxHeartbeats 1000000 in
theorem value_Wrong_ok (N : Nat) (a0 : V) (a1 : Int) (r : Int) (h : value_Wrong N a0 a1 = some r) : Spec Try.prog 22 [] [.agg (eV a0), .int a1] (.int r) [] [] := by
  refine Spec.of tabOk Try.func22 rfl Try.ntmps22 (by kernel_rfl) rfl rfl rfl fun Γ hn => ?_
  unfold value_Wrong at h
  refine COk.seqQ fun Q327 qn327 qx327 qr327 => ?_
  refine gor hn ?_
  refine qn327 _ _ ?_
  refine COk.seqQ fun Q328 qn328 qx328 qr328 => ?_
  refine COk.seqQ fun Q329 qn329 qx329 qr329 => ?_
  refine gor hn ?_
  refine qn329 _ _ ?_
  refine COk.blkQ fun Q491 qn491 qe491 qx491 qr491 => ?_
  refine COk.seqQ fun Q492 qn492 qx492 qr492 => ?_
  refine COk.seqQ fun Q493 qn493 qx493 qr493 => ?_
  refine gor hn ?_
  refine qn493 _ _ ?_
  obtain ⟨o3, h2, h⟩ := bindM h
  refine COk.joinR (ι := { s : Bool // o3 = s }) (fun s => [(1, .int a1), (2, .ptr 2 0), (6, .int a0.k), (7, .bool s.1)]) (fun s => [(2, .box (eV a0) 45)]) (fun Q498 qn498 qx498 qr498 => ?_) (by intro s; rw [hn]; rfl) ?_
  · refine goc hn ?_
    refine bselM h2 (fun hb4 h2 => ?_) (fun hb4 h2 => ?_)
    · refine gok hn ?_
      refine qn498 _ _ ?_
      obtain rfl := Option.some.inj h2
      refine EOk.done ?_
      exact ⟨⟨_, rfl⟩, [], trivial, ⟨⟨rfl, rfl, rfl, rfl, trivial⟩, ⟨rfl, trivial⟩, rfl, rfl⟩⟩
    · refine COk.seqQ fun Q499 qn499 qx499 qr499 => ?_
      refine gor hn ?_
      refine qn499 _ _ ?_
      obtain ⟨o7, h6, h2⟩ := bindM h2
      refine COk.joinR (ι := { s : Bool // o7 = s }) (fun s => [(1, .int a1), (2, .ptr 2 0), (6, .int a0.k), (7, .bool s.1)]) (fun s => [(2, .box (eV a0) 45)]) (fun Q500 qn500 qx500 qr500 => ?_) (by intro s; rw [hn]; rfl) ?_
      · refine goc hn ?_
        refine bselM h6 (fun hb8 h6 => ?_) (fun hb8 h6 => ?_)
        · refine gok hn ?_
          refine qn500 _ _ ?_
          obtain rfl := Option.some.inj h6
          refine EOk.done ?_
          exact ⟨⟨_, rfl⟩, [], trivial, ⟨⟨rfl, rfl, rfl, rfl, trivial⟩, ⟨rfl, trivial⟩, rfl, rfl⟩⟩
        · refine gor hn ?_
          refine qn500 _ _ ?_
          obtain rfl := Option.some.inj h6
          refine EOk.done ?_
          exact ⟨⟨_, rfl⟩, [], trivial, ⟨⟨rfl, rfl, rfl, rfl, trivial⟩, ⟨rfl, trivial⟩, rfl, rfl⟩⟩
      rintro ⟨v5, hv_⟩
      replace hv_ := hv_.symm
      subst hv_
      refine qn498 _ _ ?_
      obtain rfl := Option.some.inj h2
      refine EOk.done ?_
      exact ⟨⟨_, rfl⟩, [], trivial, ⟨⟨rfl, rfl, rfl, rfl, trivial⟩, ⟨rfl, trivial⟩, rfl, rfl⟩⟩
  rintro ⟨v1, hv_⟩
  replace hv_ := hv_.symm
  subst hv_
  refine qn492 _ _ ?_
  obtain ⟨o10, h9, h⟩ := bindM h
  refine COk.joinR (ι := { s : Unit // o10 = Ctl.next s }) (fun s => []) (fun s => []) (fun Q601 qn601 qx601 qr601 => ?_) (by intro s; rw [hn]; rfl) ?_
  · refine goc hn ?_
    refine bselM h9 (fun hb11 h9 => ?_) (fun hb11 h9 => ?_)
    · refine COk.seqQ fun Q602 qn602 qx602 qr602 => ?_
      refine gor hn ?_
      refine qn602 _ _ ?_
      refine goc hn ?_
      refine bselM h9 (fun hb12 h9 => ?_) (fun hb12 h9 => ?_)
      · refine COk.seqQ fun Q604 qn604 qx604 qr604 => ?_
        refine gor hn ?_
        refine qn604 _ _ ?_
        refine got hn ?_
        refine qr601 _ _ ?_
        refine qr491 _ _ ?_
        refine qr328 _ _ ?_
        obtain rfl := Option.some.inj h9
        obtain rfl := Option.some.inj h
        exact ⟨[], _, rfl, (by repeat (first | exact trivial | exact rfl | (refine And.intro ?_ ?_))), trivial, rfl, rfl, rfl, rfl, rfl⟩
      · refine gok hn ?_
        refine qn601 _ _ ?_
        obtain rfl := Option.some.inj h9
        refine EOk.done ?_
        exact ⟨⟨_, rfl⟩, [], trivial, ⟨trivial, trivial, rfl, rfl⟩⟩
    · refine COk.seqQ fun Q605 qn605 qx605 qr605 => ?_
      refine gor hn ?_
      refine qn605 _ _ ?_
      obtain ⟨o14, h13, h9⟩ := bindM h9
      refine COk.joinR (ι := { s : Unit // o14 = Ctl.next s }) (fun s => []) (fun s => []) (fun Q636 qn636 qx636 qr636 => ?_) (by intro s; rw [hn]; rfl) ?_
      · refine goc hn ?_
        refine bselM h13 (fun hb15 h13 => ?_) (fun hb15 h13 => ?_)
        · refine COk.seqQ fun Q637 qn637 qx637 qr637 => ?_
          obtain ⟨o18, h17, h13⟩ := bindM h13
          refine COk.joinR (ι := { s : Bool // o18 = s }) (fun s => [(23, .bool s.1)]) (fun s => []) (fun Q638 qn638 qx638 qr638 => ?_) (by intro s; rw [hn]; rfl) ?_
          · refine gor hn ?_
            refine bselM h17 (fun hb19 h17 => ?_) (fun hb19 h17 => ?_)
            · refine bselT hb19 ?_
              refine bselT hb19 ?_
              refine bselT hb19 ?_
              refine qn638 _ _ ?_
              obtain rfl := Option.some.inj h17
              refine EOk.done ?_
              exact ⟨⟨_, rfl⟩, [], trivial, ⟨⟨rfl, trivial⟩, trivial, rfl, rfl⟩⟩
            · refine bselF hb19 ?_
              refine bselF hb19 ?_
              refine bselF hb19 ?_
              refine qn638 _ _ ?_
              obtain rfl := Option.some.inj h17
              refine EOk.done ?_
              exact ⟨⟨_, rfl⟩, [], trivial, ⟨⟨rfl, trivial⟩, trivial, rfl, rfl⟩⟩
          rintro ⟨v16, hv_⟩
          replace hv_ := hv_.symm
          subst hv_
          refine qn637 _ _ ?_
          refine goc hn ?_
          refine bselM h13 (fun hb20 h13 => ?_) (fun hb20 h13 => ?_)
          · refine COk.seqQ fun Q640 qn640 qx640 qr640 => ?_
            refine gor hn ?_
            refine qn640 _ _ ?_
            refine got hn ?_
            refine qr636 _ _ ?_
            refine qr601 _ _ ?_
            refine qr491 _ _ ?_
            refine qr328 _ _ ?_
            obtain rfl := Option.some.inj h13
            obtain rfl := Option.some.inj h9
            obtain rfl := Option.some.inj h
            exact ⟨[], _, rfl, (by repeat (first | exact trivial | exact rfl | (refine And.intro ?_ ?_))), trivial, rfl, rfl, rfl, rfl, rfl⟩
          · refine gok hn ?_
            refine qn636 _ _ ?_
            obtain rfl := Option.some.inj h13
            refine EOk.done ?_
            exact ⟨⟨_, rfl⟩, [], trivial, ⟨trivial, trivial, rfl, rfl⟩⟩
        · refine COk.seqQ fun Q641 qn641 qx641 qr641 => ?_
          refine gor hn ?_
          refine qn641 _ _ ?_
          refine goc hn ?_
          refine bselM h13 (fun hb21 h13 => ?_) (fun hb21 h13 => ?_)
          · refine COk.seqQ fun Q647 qn647 qx647 qr647 => ?_
            obtain ⟨o24, h23, h13⟩ := bindM h13
            refine COk.joinR (ι := { s : Bool // o24 = s }) (fun s => [(34, .bool s.1)]) (fun s => []) (fun Q648 qn648 qx648 qr648 => ?_) (by intro s; rw [hn]; rfl) ?_
            · refine gor hn ?_
              refine bselM h23 (fun hb25 h23 => ?_) (fun hb25 h23 => ?_)
              · refine bselT hb25 ?_
                refine bselT hb25 ?_
                refine bselT hb25 ?_
                refine bselT hb25 ?_
                refine qn648 _ _ ?_
                obtain rfl := Option.some.inj h23
                refine EOk.done ?_
                exact ⟨⟨_, rfl⟩, [], trivial, ⟨⟨rfl, trivial⟩, trivial, rfl, rfl⟩⟩
              · refine bselF hb25 ?_
                refine bselF hb25 ?_
                refine bselF hb25 ?_
                refine bselF hb25 ?_
                refine qn648 _ _ ?_
                obtain rfl := Option.some.inj h23
                refine EOk.done ?_
                exact ⟨⟨_, rfl⟩, [], trivial, ⟨⟨rfl, trivial⟩, trivial, rfl, rfl⟩⟩
            rintro ⟨v22, hv_⟩
            replace hv_ := hv_.symm
            subst hv_
            refine qn647 _ _ ?_
            refine goc hn ?_
            refine bselM h13 (fun hb26 h13 => ?_) (fun hb26 h13 => ?_)
            · refine COk.seqQ fun Q650 qn650 qx650 qr650 => ?_
              refine gor hn ?_
              refine qn650 _ _ ?_
              refine got hn ?_
              refine qr636 _ _ ?_
              refine qr601 _ _ ?_
              refine qr491 _ _ ?_
              refine qr328 _ _ ?_
              obtain rfl := Option.some.inj h13
              obtain rfl := Option.some.inj h9
              obtain rfl := Option.some.inj h
              exact ⟨[], _, rfl, (by repeat (first | exact trivial | exact rfl | (refine And.intro ?_ ?_))), trivial, rfl, rfl, rfl, rfl, rfl⟩
            · refine gok hn ?_
              refine qn636 _ _ ?_
              obtain rfl := Option.some.inj h13
              refine EOk.done ?_
              exact ⟨⟨_, rfl⟩, [], trivial, ⟨trivial, trivial, rfl, rfl⟩⟩
          · refine COk.seqQ fun Q651 qn651 qx651 qr651 => ?_
            refine gor hn ?_
            refine qn651 _ _ ?_
            refine got hn ?_
            refine qr636 _ _ ?_
            refine qr601 _ _ ?_
            refine qr491 _ _ ?_
            refine qr328 _ _ ?_
            obtain rfl := Option.some.inj h13
            obtain rfl := Option.some.inj h9
            obtain rfl := Option.some.inj h
            exact ⟨[], _, rfl, (by repeat (first | exact trivial | exact rfl | (refine And.intro ?_ ?_))), trivial, rfl, rfl, rfl, rfl, rfl⟩
      rintro ⟨⟨⟩, rfl⟩
      refine qn601 _ _ ?_
      obtain rfl := Option.some.inj h9
      refine EOk.done ?_
      exact ⟨⟨_, rfl⟩, [], trivial, ⟨trivial, trivial, rfl, rfl⟩⟩
  rintro ⟨⟨⟩, rfl⟩
  refine qn491 _ _ ?_
  refine qn328 _ _ ?_
  refine COk.seqQ fun Q652 qn652 qx652 qr652 => ?_
  refine gor hn ?_
  refine qn652 _ _ ?_
  refine got hn ?_
  obtain rfl := Option.some.inj h
  exact ⟨[], _, rfl, (by repeat (first | exact trivial | exact rfl | (refine And.intro ?_ ?_))), trivial, rfl, rfl, rfl, rfl, rfl⟩

/- qcref1.Wrong -/
set_option maxRecDepth 100000 in
set_option maxHeartbeats 1000000 in
theorem qcref1_Wrong_ok (N : Nat) (a0 : V) (a1 : Int) (r : Int) (h : qcref1_Wrong N a0 a1 = some r) : Spec Try.prog 23 [] [.agg (eV a0), .int a1] (.int r) [] [] := by
  refine Spec.of tabOk Try.func23 rfl Try.ntmps23 (by kernel_rfl) rfl rfl rfl fun Γ hn => ?_
  unfold qcref1_Wrong at h
  refine COk.seqQ fun Q23 qn23 qx23 qr23 => ?_
  refine gor hn ?_
  refine qn23 _ _ ?_
  refine COk.seqQ fun Q24 qn24 qx24 qr24 => ?_
  refine COk.seqQ fun Q25 qn25 qx25 qr25 => ?_
  obtain ⟨o3, h2, h⟩ := bindM h
  refine COk.joinR (ι := { s : Bool // o3 = s }) (fun s => [(1, .int a1), (2, .ptr 2 0), (12, .bool s.1)]) (fun s => [(2, .box (eV a0) 45)]) (fun Q26 qn26 qx26 qr26 => ?_) (by intro s; rw [hn]; rfl) ?_
  · refine gor hn ?_
    refine bselM h2 (fun hb4 h2 => ?_) (fun hb4 h2 => ?_)
    · refine bselT hb4 ?_
      refine bselT hb4 ?_
      refine bselT hb4 ?_
      refine qn26 _ _ ?_
      obtain rfl := Option.some.inj h2
      refine EOk.done ?_
      exact ⟨⟨_, rfl⟩, [], trivial, ⟨⟨rfl, rfl, rfl, trivial⟩, ⟨rfl, trivial⟩, rfl, rfl⟩⟩
    · refine bselF hb4 ?_
      refine bselF hb4 ?_
      refine bselF hb4 ?_
      refine qn26 _ _ ?_
      obtain rfl := Option.some.inj h2
      refine EOk.done ?_
      exact ⟨⟨_, rfl⟩, [], trivial, ⟨⟨rfl, rfl, rfl, trivial⟩, ⟨rfl, trivial⟩, rfl, rfl⟩⟩
  rintro ⟨v1, hv_⟩
  replace hv_ := hv_.symm
  subst hv_
  refine qn25 _ _ ?_
  refine goc hn ?_
  refine bselM h (fun hb5 h => ?_) (fun hb5 h => ?_)
  · refine COk.seqQ fun Q28 qn28 qx28 qr28 => ?_
    refine gor hn ?_
    refine qn28 _ _ ?_
    refine got hn ?_
    refine qr24 _ _ ?_
    obtain rfl := Option.some.inj h
    exact ⟨[], _, rfl, (by repeat (first | exact trivial | exact rfl | (refine And.intro ?_ ?_))), trivial, rfl, rfl, rfl, rfl, rfl⟩
  · refine gok hn ?_
    refine qn24 _ _ ?_
    refine COk.seqQ fun Q29 qn29 qx29 qr29 => ?_
    refine COk.seqQ fun Q30 qn30 qx30 qr30 => ?_
    obtain ⟨o8, h7, h⟩ := bindM h
    refine COk.joinR (ι := { s : Bool // o8 = s }) (fun s => [(1, .int a1), (2, .ptr 2 0), (20, .bool s.1)]) (fun s => [(2, .box (eV a0) 45)]) (fun Q31 qn31 qx31 qr31 => ?_) (by intro s; rw [hn]; rfl) ?_
    · refine gor hn ?_
      refine bselM h7 (fun hb9 h7 => ?_) (fun hb9 h7 => ?_)
      · refine bselT hb9 ?_
        refine bselT hb9 ?_
        refine bselT hb9 ?_
        refine qn31 _ _ ?_
        obtain rfl := Option.some.inj h7
        refine EOk.done ?_
        exact ⟨⟨_, rfl⟩, [], trivial, ⟨⟨rfl, rfl, rfl, trivial⟩, ⟨rfl, trivial⟩, rfl, rfl⟩⟩
      · refine bselF hb9 ?_
        refine bselF hb9 ?_
        refine bselF hb9 ?_
        refine qn31 _ _ ?_
        obtain rfl := Option.some.inj h7
        refine EOk.done ?_
        exact ⟨⟨_, rfl⟩, [], trivial, ⟨⟨rfl, rfl, rfl, trivial⟩, ⟨rfl, trivial⟩, rfl, rfl⟩⟩
    rintro ⟨v6, hv_⟩
    replace hv_ := hv_.symm
    subst hv_
    refine qn30 _ _ ?_
    refine goc hn ?_
    refine bselM h (fun hb10 h => ?_) (fun hb10 h => ?_)
    · refine COk.seqQ fun Q33 qn33 qx33 qr33 => ?_
      refine gor hn ?_
      refine qn33 _ _ ?_
      refine got hn ?_
      refine qr29 _ _ ?_
      obtain rfl := Option.some.inj h
      exact ⟨[], _, rfl, (by repeat (first | exact trivial | exact rfl | (refine And.intro ?_ ?_))), trivial, rfl, rfl, rfl, rfl, rfl⟩
    · refine gok hn ?_
      refine qn29 _ _ ?_
      refine COk.seqQ fun Q34 qn34 qx34 qr34 => ?_
      refine COk.seqQ fun Q35 qn35 qx35 qr35 => ?_
      obtain ⟨o13, h12, h⟩ := bindM h
      refine COk.joinR (ι := { s : Bool // o13 = s }) (fun s => [(1, .int a1), (2, .ptr 2 0), (33, .bool s.1)]) (fun s => [(2, .box (eV a0) 45)]) (fun Q36 qn36 qx36 qr36 => ?_) (by intro s; rw [hn]; rfl) ?_
      · refine gor hn ?_
        refine bselM h12 (fun hb14 h12 => ?_) (fun hb14 h12 => ?_)
        · refine bselT hb14 ?_
          refine bselT hb14 ?_
          refine bselT hb14 ?_
          refine bselM h12 (fun hb15 h12 => ?_) (fun hb15 h12 => ?_)
          · refine bselT hb15 ?_
            refine bselT hb15 ?_
            refine bselT hb14 ?_
            refine bselT hb15 ?_
            refine bselT hb14 ?_
            refine qn36 _ _ ?_
            obtain rfl := Option.some.inj h12
            refine EOk.done ?_
            exact ⟨⟨_, rfl⟩, [], trivial, ⟨⟨rfl, rfl, rfl, trivial⟩, ⟨rfl, trivial⟩, rfl, rfl⟩⟩
          · refine bselF hb15 ?_
            refine bselF hb15 ?_
            refine bselT hb14 ?_
            refine bselF hb15 ?_
            refine bselT hb14 ?_
            refine qn36 _ _ ?_
            obtain rfl := Option.some.inj h12
            refine EOk.done ?_
            exact ⟨⟨_, rfl⟩, [], trivial, ⟨⟨rfl, rfl, rfl, trivial⟩, ⟨rfl, trivial⟩, rfl, rfl⟩⟩
        · refine bselF hb14 ?_
          refine bselF hb14 ?_
          refine bselF hb14 ?_
          refine bselF hb14 ?_
          refine bselF hb14 ?_
          refine qn36 _ _ ?_
          obtain rfl := Option.some.inj h12
          refine EOk.done ?_
          exact ⟨⟨_, rfl⟩, [], trivial, ⟨⟨rfl, rfl, rfl, trivial⟩, ⟨rfl, trivial⟩, rfl, rfl⟩⟩
      rintro ⟨v11, hv_⟩
      replace hv_ := hv_.symm
      subst hv_
      refine qn35 _ _ ?_
      refine goc hn ?_
      refine bselM h (fun hb16 h => ?_) (fun hb16 h => ?_)
      · refine COk.seqQ fun Q38 qn38 qx38 qr38 => ?_
        refine gor hn ?_
        refine qn38 _ _ ?_
        refine got hn ?_
        refine qr34 _ _ ?_
        obtain rfl := Option.some.inj h
        exact ⟨[], _, rfl, (by repeat (first | exact trivial | exact rfl | (refine And.intro ?_ ?_))), trivial, rfl, rfl, rfl, rfl, rfl⟩
      · refine gok hn ?_
        refine qn34 _ _ ?_
        refine COk.seqQ fun Q39 qn39 qx39 qr39 => ?_
        refine COk.seqQ fun Q40 qn40 qx40 qr40 => ?_
        obtain ⟨o19, h18, h⟩ := bindM h
        refine COk.joinR (ι := { s : Bool // o19 = s }) (fun s => [(47, .bool s.1)]) (fun s => []) (fun Q41 qn41 qx41 qr41 => ?_) (by intro s; rw [hn]; rfl) ?_
        · refine gor hn ?_
          refine bselM h18 (fun hb20 h18 => ?_) (fun hb20 h18 => ?_)
          · refine bselT hb20 ?_
            refine bselT hb20 ?_
            refine bselT hb20 ?_
            refine bselM h18 (fun hb21 h18 => ?_) (fun hb21 h18 => ?_)
            · refine bselT hb21 ?_
              refine bselT hb21 ?_
              refine bselT hb21 ?_
              refine bselT hb20 ?_
              refine bselT hb21 ?_
              refine bselT hb20 ?_
              refine qn41 _ _ ?_
              obtain rfl := Option.some.inj h18
              refine EOk.done ?_
              exact ⟨⟨_, rfl⟩, [], trivial, ⟨⟨rfl, trivial⟩, trivial, rfl, rfl⟩⟩
            · refine bselF hb21 ?_
              refine bselF hb21 ?_
              refine bselF hb21 ?_
              refine bselT hb20 ?_
              refine bselF hb21 ?_
              refine bselT hb20 ?_
              refine qn41 _ _ ?_
              obtain rfl := Option.some.inj h18
              refine EOk.done ?_
              exact ⟨⟨_, rfl⟩, [], trivial, ⟨⟨rfl, trivial⟩, trivial, rfl, rfl⟩⟩
          · refine bselF hb20 ?_
            refine bselF hb20 ?_
            refine bselF hb20 ?_
            refine bselF hb20 ?_
            refine bselF hb20 ?_
            refine qn41 _ _ ?_
            obtain rfl := Option.some.inj h18
            refine EOk.done ?_
            exact ⟨⟨_, rfl⟩, [], trivial, ⟨⟨rfl, trivial⟩, trivial, rfl, rfl⟩⟩
        rintro ⟨v17, hv_⟩
        replace hv_ := hv_.symm
        subst hv_
        refine qn40 _ _ ?_
        refine goc hn ?_
        refine bselM h (fun hb22 h => ?_) (fun hb22 h => ?_)
        · refine COk.seqQ fun Q43 qn43 qx43 qr43 => ?_
          refine gor hn ?_
          refine qn43 _ _ ?_
          refine got hn ?_
          refine qr39 _ _ ?_
          obtain rfl := Option.some.inj h
          exact ⟨[], _, rfl, (by repeat (first | exact trivial | exact rfl | (refine And.intro ?_ ?_))), trivial, rfl, rfl, rfl, rfl, rfl⟩
        · refine gok hn ?_
          refine qn39 _ _ ?_
          refine COk.seqQ fun Q44 qn44 qx44 qr44 => ?_
          refine gor hn ?_
          refine qn44 _ _ ?_
          refine got hn ?_
          obtain rfl := Option.some.inj h
          exact ⟨[], _, rfl, (by repeat (first | exact trivial | exact rfl | (refine And.intro ?_ ?_))), trivial, rfl, rfl, rfl, rfl, rfl⟩
end Go.Proofs.Ytioalgofaiideaa
