/- Walks after the mirrors. Printed by mir.py. -/
import Derived.Test.YtioalgofaiideaaMir
import Derived.Test.YtioalgofaiideaaYnew
namespace Go.Proofs.Ytioalgofaiideaa
open Go.RowKit
set_option linter.unusedVariables false
/- tally.Most -/
set_option maxRecDepth 100000 in
set_option maxHeartbeats 1000000 in
theorem tally_Most_ok (N : Nat) (a0 : (List Tl)) (a1 : St) (r : (Int × Int)) (h : tally_Most N a0 a1 = some r) : Spec Try.prog 15 [] [.sl 4 (List.map eTl a0), .agg (eSt a1)] (.tup [.int r.1, .int r.2]) [] [] := by
  refine Spec.of tabOk Try.func15 rfl Try.ntmps15 (by kernel_rfl) rfl rfl rfl fun Γ hn => ?_
  unfold tally_Most at h
  refine COk.seqQ fun Q771 qn771 qx771 qr771 => ?_
  refine gor hn ?_
  refine qn771 _ _ ?_
  refine COk.seqQ fun Q772 qn772 qx772 qr772 => ?_
  refine gor hn ?_
  refine qn772 _ _ ?_
  refine COk.seqQ fun Q773 qn773 qx773 qr773 => ?_
  refine COk.seqQ fun Q774 qn774 qx774 qr774 => ?_
  refine gor hn ?_
  refine lenM (fun hl1 => ?_)
  refine qn774 _ _ ?_
  obtain ⟨o9, h10, h⟩ := bindM h
  refine COk.joinR (ι := { s : (Int × Int) // o9 = s }) (fun s => [(6, .int s.1.1), (7, .int s.1.2)]) (fun s => []) (fun Q1345 qn1345 qx1345 qr1345 => ?_) (by intro s; rw [hn]; rfl) ?_
  · refine COk.blkQ fun Q1346 qn1346 qe1346 qx1346 qr1346 => ?_
    refine COk.loopQ (ι := { q : ((List Tl) × Nat × Int × Int) // q.1 = a0.drop q.2.1 ∧ tally_Most_l1 N a1 q.1 q.2.1 q.2.2.1 q.2.2.2 = some o9 }) (fun q => [(3, .ptr 3 0), (6, .int q.1.2.2.1), (7, .int q.1.2.2.2), (12, .sl 4 (List.map eTl a0)), (13, .int (a0.length : Int)), (14, .int (q.1.2.1 : Int))]) (fun q => [(3, .box (eSt a1) 24)]) (fun q => q.1.1.length) ⟨(a0, 0, (-1 : Int), (0 : Int)), rfl, h10⟩ [] ⟨⟨rfl, rfl, rfl, (by repeat (first | exact trivial | exact rfl | (refine And.intro ?_ ?_))), rfl, rfl, trivial⟩, ⟨rfl, trivial⟩, rfl, rfl⟩ (by intro q; rw [hn]; rfl) ?_
    rintro ⟨⟨rest_, k2, v3, v4⟩, hd12, h10⟩ Q1347 qn1347 qx1347 qr1347
    replace hd12 : rest_ = a0.drop k2 := hd12
    rcases rest_ with _ | ⟨x14, rest11⟩
    · have hlt16 := restNil hd12
      replace h10 := (tally_Most_l1.eq_1 _ _ _ _ _).symm.trans h10
      refine COk.seqQ fun Q1348 qn1348 qx1348 qr1348 => ?_
      refine gor hn ?_
      refine qn1348 _ _ ?_
      refine COk.seqQ fun Q1349 qn1349 qx1349 qr1349 => ?_
      refine goc hn ?_
      refine bselF hlt16 ?_
      refine goe hn ?_
      refine qx1349 _ _ _ ?_
      refine qx1347 _ _ _ ?_
      refine qe1346 _ _ ?_
      refine qn1345 _ _ ?_
      obtain rfl := Option.some.inj h10
      refine EOk.done ?_
      exact ⟨⟨_, rfl⟩, [], trivial, ⟨⟨rfl, rfl, trivial⟩, trivial, rfl, rfl⟩⟩
    · obtain ⟨hx15, hd2, hlt16⟩ := restCons hd12
      replace h10 := (tally_Most_l1.eq_2 _ _ _ _ _ _ _).symm.trans h10
      refine COk.seqQ fun Q1350 qn1350 qx1350 qr1350 => ?_
      refine gor hn ?_
      refine qn1350 _ _ ?_
      refine COk.seqQ fun Q1351 qn1351 qx1351 qr1351 => ?_
      refine goc hn ?_
      refine bselT hlt16 ?_
      refine gok hn ?_
      refine qn1351 _ _ ?_
      refine COk.seqQ fun Q1352 qn1352 qx1352 qr1352 => ?_
      obtain ⟨o20, h19, h10⟩ := bindM h10
      refine COk.joinR (ι := { s : (Int × Int) // o20 = s }) (fun s => [(3, .ptr 3 0), (6, .int s.1.1), (7, .int s.1.2), (12, .sl 4 (List.map eTl a0)), (13, .int (a0.length : Int)), (14, .int (k2 : Int))]) (fun s => [(3, .box (eSt a1) 24)]) (fun Q1477 qn1477 qx1477 qr1477 => ?_) (by intro s; rw [hn]; rfl) ?_
      · refine COk.blkQ fun Q1478 qn1478 qe1478 qx1478 qr1478 => ?_
        refine COk.seqQ fun Q1479 qn1479 qx1479 qr1479 => ?_
        refine gor hn ?_
        refine idxK hx15 ?_
        refine qn1479 _ _ ?_
        refine COk.seqQ fun Q1480 qn1480 qx1480 qr1480 => ?_
        refine COk.seqQ fun Q1481 qn1481 qx1481 qr1481 => ?_
        refine gor hn ?_
        refine qn1481 _ _ ?_
        refine goc hn ?_
        refine bselM h19 (fun hb21 h19 => ?_) (fun hb21 h19 => ?_)
        · refine goe hn ?_
          refine qx1480 _ _ _ ?_
          refine qe1478 _ _ ?_
          refine qn1477 _ _ ?_
          obtain rfl := Option.some.inj h19
          refine EOk.done ?_
          exact ⟨⟨_, rfl⟩, [], trivial, ⟨⟨rfl, rfl, rfl, (by repeat (first | exact trivial | exact rfl | (refine And.intro ?_ ?_))), rfl, rfl, trivial⟩, ⟨rfl, trivial⟩, rfl, rfl⟩⟩
        · refine gok hn ?_
          refine qn1480 _ _ ?_
          refine COk.seqQ fun Q1482 qn1482 qx1482 qr1482 => ?_
          refine gor hn ?_
          refine lenM (fun hl22 => ?_)
          refine qn1482 _ _ ?_
          obtain ⟨o30, h31, h19⟩ := bindM h19
          refine COk.joinR (ι := { s : (Int × Int) // o30 = s }) (fun s => [(3, .ptr 3 0), (6, .int s.1.1), (7, .int s.1.2), (12, .sl 4 (List.map eTl a0)), (13, .int (a0.length : Int)), (14, .int (k2 : Int))]) (fun s => [(3, .box (eSt a1) 24)]) (fun Q1522 qn1522 qx1522 qr1522 => ?_) (by intro s; rw [hn]; rfl) ?_
          · refine COk.blkQ fun Q1523 qn1523 qe1523 qx1523 qr1523 => ?_
            refine COk.loopQ (ι := { q : ((List Ln) × Nat × Int × Int) // q.1 = x14.classes.drop q.2.1 ∧ tally_Most_l2 N q.1 q.2.1 q.2.2.1 q.2.2.2 = some o30 }) (fun q => [(3, .ptr 3 0), (6, .int q.1.2.2.1), (7, .int q.1.2.2.2), (12, .sl 4 (List.map eTl a0)), (13, .int (a0.length : Int)), (14, .int (k2 : Int)), (23, .sl 2 (List.map eLn x14.classes)), (24, .int (x14.classes.length : Int)), (25, .int (q.1.2.1 : Int))]) (fun q => [(3, .box (eSt a1) 24)]) (fun q => q.1.1.length) ⟨(x14.classes, 0, v3, v4), rfl, h31⟩ [] ⟨⟨rfl, rfl, rfl, (by repeat (first | exact trivial | exact rfl | (refine And.intro ?_ ?_))), rfl, rfl, (by repeat (first | exact trivial | exact rfl | (refine And.intro ?_ ?_))), rfl, rfl, trivial⟩, ⟨rfl, trivial⟩, rfl, rfl⟩ (by intro q; rw [hn]; rfl) ?_
            rintro ⟨⟨rest_, k23, v24, v25⟩, hd33, h31⟩ Q1524 qn1524 qx1524 qr1524
            replace hd33 : rest_ = x14.classes.drop k23 := hd33
            rcases rest_ with _ | ⟨x35, rest32⟩
            · have hlt37 := restNil hd33
              replace h31 := (tally_Most_l2.eq_1 _ _ _ _).symm.trans h31
              refine COk.seqQ fun Q1525 qn1525 qx1525 qr1525 => ?_
              refine gor hn ?_
              refine qn1525 _ _ ?_
              refine COk.seqQ fun Q1526 qn1526 qx1526 qr1526 => ?_
              refine goc hn ?_
              refine bselF hlt37 ?_
              refine goe hn ?_
              refine qx1526 _ _ _ ?_
              refine qx1524 _ _ _ ?_
              refine qe1523 _ _ ?_
              refine qn1522 _ _ ?_
              obtain rfl := Option.some.inj h31
              refine EOk.done ?_
              exact ⟨⟨_, rfl⟩, [], trivial, ⟨⟨rfl, rfl, rfl, (by repeat (first | exact trivial | exact rfl | (refine And.intro ?_ ?_))), rfl, rfl, trivial⟩, ⟨rfl, trivial⟩, rfl, rfl⟩⟩
            · obtain ⟨hx36, hd2, hlt37⟩ := restCons hd33
              replace h31 := (tally_Most_l2.eq_2 _ _ _ _ _ _).symm.trans h31
              refine COk.seqQ fun Q1527 qn1527 qx1527 qr1527 => ?_
              refine gor hn ?_
              refine qn1527 _ _ ?_
              refine COk.seqQ fun Q1528 qn1528 qx1528 qr1528 => ?_
              refine goc hn ?_
              refine bselT hlt37 ?_
              refine gok hn ?_
              refine qn1528 _ _ ?_
              refine COk.seqQ fun Q1529 qn1529 qx1529 qr1529 => ?_
              refine COk.blkQ fun Q1535 qn1535 qe1535 qx1535 qr1535 => ?_
              refine COk.seqQ fun Q1536 qn1536 qx1536 qr1536 => ?_
              refine gor hn ?_
              refine idxK hx36 ?_
              refine qn1536 _ _ ?_
              refine COk.seqQ fun Q1537 qn1537 qx1537 qr1537 => ?_
              obtain ⟨o40, h39, h31⟩ := bindM h31
              refine COk.joinR (ι := { s : Bool // o40 = s }) (fun s => [(3, .ptr 3 0), (6, .int v24), (7, .int v25), (11, .ptr 11 0), (12, .sl 4 (List.map eTl a0)), (13, .int (a0.length : Int)), (14, .int (k2 : Int)), (23, .sl 2 (List.map eLn x14.classes)), (24, .int (x14.classes.length : Int)), (25, .int (k23 : Int)), (48, .bool s.1)]) (fun s => [(3, .box (eSt a1) 24), (11, .box (eLn x35) 29)]) (fun Q1538 qn1538 qx1538 qr1538 => ?_) (by intro s; rw [hn]; rfl) ?_
              · refine gor hn ?_
                refine bselM h39 (fun hb41 h39 => ?_) (fun hb41 h39 => ?_)
                · refine bselT hb41 ?_
                  refine bselT hb41 ?_
                  refine bselT hb41 ?_
                  refine bselT hb41 ?_
                  refine bselT hb41 ?_
                  refine bselT hb41 ?_
                  refine bselT hb41 ?_
                  refine bselT hb41 ?_
                  refine qn1538 _ _ ?_
                  obtain rfl := Option.some.inj h39
                  refine EOk.done ?_
                  exact ⟨⟨_, rfl⟩, [], trivial, ⟨⟨rfl, rfl, rfl, rfl, (by repeat (first | exact trivial | exact rfl | (refine And.intro ?_ ?_))), rfl, rfl, (by repeat (first | exact trivial | exact rfl | (refine And.intro ?_ ?_))), rfl, rfl, rfl, trivial⟩, ⟨rfl, rfl, trivial⟩, rfl, rfl⟩⟩
                · refine bselF hb41 ?_
                  refine bselF hb41 ?_
                  refine bselF hb41 ?_
                  refine bselF hb41 ?_
                  refine bselM h39 (fun hb42 h39 => ?_) (fun hb42 h39 => ?_)
                  · refine bselT hb42 ?_
                    refine bselF hb41 ?_
                    refine bselT hb42 ?_
                    refine bselF hb41 ?_
                    refine bselM h39 (fun hb43 h39 => ?_) (fun hb43 h39 => ?_)
                    · refine bselT hb43 ?_
                      refine bselT hb43 ?_
                      refine bselT hb43 ?_
                      refine bselF hb41 ?_
                      refine bselT hb43 ?_
                      refine bselF hb41 ?_
                      refine qn1538 _ _ ?_
                      obtain rfl := Option.some.inj h39
                      refine EOk.done ?_
                      exact ⟨⟨_, rfl⟩, [], trivial, ⟨⟨rfl, rfl, rfl, rfl, (by repeat (first | exact trivial | exact rfl | (refine And.intro ?_ ?_))), rfl, rfl, (by repeat (first | exact trivial | exact rfl | (refine And.intro ?_ ?_))), rfl, rfl, rfl, trivial⟩, ⟨rfl, rfl, trivial⟩, rfl, rfl⟩⟩
                    · refine bselF hb43 ?_
                      refine bselF hb43 ?_
                      refine bselF hb43 ?_
                      refine bselF hb41 ?_
                      refine bselF hb43 ?_
                      refine bselF hb41 ?_
                      refine qn1538 _ _ ?_
                      obtain rfl := Option.some.inj h39
                      refine EOk.done ?_
                      exact ⟨⟨_, rfl⟩, [], trivial, ⟨⟨rfl, rfl, rfl, rfl, (by repeat (first | exact trivial | exact rfl | (refine And.intro ?_ ?_))), rfl, rfl, (by repeat (first | exact trivial | exact rfl | (refine And.intro ?_ ?_))), rfl, rfl, rfl, trivial⟩, ⟨rfl, rfl, trivial⟩, rfl, rfl⟩⟩
                  · refine bselF hb42 ?_
                    refine bselF hb41 ?_
                    refine bselF hb42 ?_
                    refine bselF hb41 ?_
                    refine bselF hb41 ?_
                    refine bselF hb41 ?_
                    refine qn1538 _ _ ?_
                    obtain rfl := Option.some.inj h39
                    refine EOk.done ?_
                    exact ⟨⟨_, rfl⟩, [], trivial, ⟨⟨rfl, rfl, rfl, rfl, (by repeat (first | exact trivial | exact rfl | (refine And.intro ?_ ?_))), rfl, rfl, (by repeat (first | exact trivial | exact rfl | (refine And.intro ?_ ?_))), rfl, rfl, rfl, trivial⟩, ⟨rfl, rfl, trivial⟩, rfl, rfl⟩⟩
              rintro ⟨v38, hv_⟩
              replace hv_ := hv_.symm
              subst hv_
              refine qn1537 _ _ ?_
              obtain ⟨o47, h46, h31⟩ := bindM h31
              refine COk.joinR (ι := { s : (Int × Int) // o47 = s }) (fun s => [(3, .ptr 3 0), (6, .int s.1.1), (7, .int s.1.2), (12, .sl 4 (List.map eTl a0)), (13, .int (a0.length : Int)), (14, .int (k2 : Int)), (23, .sl 2 (List.map eLn x14.classes)), (24, .int (x14.classes.length : Int)), (25, .int (k23 : Int))]) (fun s => [(3, .box (eSt a1) 24)]) (fun Q1539 qn1539 qx1539 qr1539 => ?_) (by intro s; rw [hn]; rfl) ?_
              · refine goc hn ?_
                refine bselM h46 (fun hb48 h46 => ?_) (fun hb48 h46 => ?_)
                · refine god hn (by kernel_rfl) ?_
                  refine qn1539 _ _ ?_
                  obtain rfl := Option.some.inj h46
                  refine EOk.done ?_
                  exact ⟨⟨_, rfl⟩, [], trivial, ⟨⟨rfl, rfl, rfl, (by repeat (first | exact trivial | exact rfl | (refine And.intro ?_ ?_))), rfl, rfl, (by repeat (first | exact trivial | exact rfl | (refine And.intro ?_ ?_))), rfl, rfl, trivial⟩, ⟨rfl, trivial⟩, rfl, rfl⟩⟩
                · refine gok hn ?_
                  refine qn1539 _ _ ?_
                  obtain rfl := Option.some.inj h46
                  refine EOk.done ?_
                  exact ⟨⟨_, rfl⟩, [], trivial, ⟨⟨rfl, rfl, rfl, (by repeat (first | exact trivial | exact rfl | (refine And.intro ?_ ?_))), rfl, rfl, (by repeat (first | exact trivial | exact rfl | (refine And.intro ?_ ?_))), rfl, rfl, trivial⟩, ⟨rfl, trivial⟩, rfl, rfl⟩⟩
              rintro ⟨⟨v44, v45⟩, rfl⟩
              refine qn1535 _ _ ?_
              refine qn1529 _ _ ?_
              refine gor hn ?_
              refine Or.inl (And.intro (inrK hx36 hl22) ?_)
              refine qn1524 _ _ ?_
              refine EOk.done ?_
              exact ⟨⟨(rest32, k23 + 1, v44, v45), hd2, h31⟩, [], by show rest32.length < rest32.length + 1; omega, ⟨⟨rfl, rfl, rfl, (by repeat (first | exact trivial | exact rfl | (refine And.intro ?_ ?_))), rfl, rfl, (by repeat (first | exact trivial | exact rfl | (refine And.intro ?_ ?_))), rfl, rfl, trivial⟩, ⟨rfl, trivial⟩, rfl, rfl⟩⟩
          rintro ⟨⟨v28, v29⟩, rfl⟩
          refine qn1478 _ _ ?_
          refine qn1477 _ _ ?_
          obtain rfl := Option.some.inj h19
          refine EOk.done ?_
          exact ⟨⟨_, rfl⟩, [], trivial, ⟨⟨rfl, rfl, rfl, (by repeat (first | exact trivial | exact rfl | (refine And.intro ?_ ?_))), rfl, rfl, trivial⟩, ⟨rfl, trivial⟩, rfl, rfl⟩⟩
      rintro ⟨⟨v17, v18⟩, rfl⟩
      refine qn1352 _ _ ?_
      refine gor hn ?_
      refine Or.inl (And.intro (inrK hx15 hl1) ?_)
      refine qn1347 _ _ ?_
      refine EOk.done ?_
      exact ⟨⟨(rest11, k2 + 1, v17, v18), hd2, h10⟩, [], by show rest11.length < rest11.length + 1; omega, ⟨⟨rfl, rfl, rfl, (by repeat (first | exact trivial | exact rfl | (refine And.intro ?_ ?_))), rfl, rfl, trivial⟩, ⟨rfl, trivial⟩, rfl, rfl⟩⟩
  rintro ⟨⟨v7, v8⟩, rfl⟩
  refine qn773 _ _ ?_
  refine COk.seqQ fun Q1540 qn1540 qx1540 qr1540 => ?_
  refine gor hn ?_
  refine qn1540 _ _ ?_
  refine got hn ?_
  obtain rfl := Option.some.inj h
  exact ⟨[], _, rfl, (by repeat (first | exact trivial | exact rfl | (refine And.intro ?_ ?_))), trivial, rfl, rfl, rfl, rfl, rfl⟩

/- tally.All -/
set_option maxRecDepth 100000 in
set_option maxHeartbeats 1000000 in
theorem tally_All_ok (N : Nat) (a0 : (List Tl)) (a1 : St) (r : Int) (h : tally_All N a0 a1 = some r) : Spec Try.prog 20 [] [.sl 4 (List.map eTl a0), .agg (eSt a1)] (.int r) [] [] := by
  refine Spec.of tabOk Try.func20 rfl Try.ntmps20 (by kernel_rfl) rfl rfl rfl fun Γ hn => ?_
  unfold tally_All at h
  refine COk.seqQ fun Q483 qn483 qx483 qr483 => ?_
  refine gor hn ?_
  refine qn483 _ _ ?_
  refine COk.seqQ fun Q484 qn484 qx484 qr484 => ?_
  refine gor hn ?_
  refine qn484 _ _ ?_
  refine COk.seqQ fun Q485 qn485 qx485 qr485 => ?_
  refine COk.seqQ fun Q486 qn486 qx486 qr486 => ?_
  refine gor hn ?_
  refine lenM (fun hl1 => ?_)
  refine qn486 _ _ ?_
  obtain ⟨o6, h7, h⟩ := bindM h
  refine COk.joinR (ι := { s : Int // o6 = s }) (fun s => [(5, .int s.1)]) (fun s => []) (fun Q841 qn841 qx841 qr841 => ?_) (by intro s; rw [hn]; rfl) ?_
  · refine COk.blkQ fun Q842 qn842 qe842 qx842 qr842 => ?_
    refine COk.loopQ (ι := { q : ((List Tl) × Nat × Int) // q.1 = a0.drop q.2.1 ∧ tally_All_l1 N a1 q.1 q.2.1 q.2.2 = some o6 }) (fun q => [(3, .ptr 3 0), (5, .int q.1.2.2), (10, .sl 4 (List.map eTl a0)), (11, .int (a0.length : Int)), (12, .int (q.1.2.1 : Int))]) (fun q => [(3, .box (eSt a1) 24)]) (fun q => q.1.1.length) ⟨(a0, 0, (0 : Int)), rfl, h7⟩ [] ⟨⟨rfl, rfl, (by repeat (first | exact trivial | exact rfl | (refine And.intro ?_ ?_))), rfl, rfl, trivial⟩, ⟨rfl, trivial⟩, rfl, rfl⟩ (by intro q; rw [hn]; rfl) ?_
    rintro ⟨⟨rest_, k2, v3⟩, hd9, h7⟩ Q843 qn843 qx843 qr843
    replace hd9 : rest_ = a0.drop k2 := hd9
    rcases rest_ with _ | ⟨x11, rest8⟩
    · have hlt13 := restNil hd9
      replace h7 := (tally_All_l1.eq_1 _ _ _ _).symm.trans h7
      refine COk.seqQ fun Q844 qn844 qx844 qr844 => ?_
      refine gor hn ?_
      refine qn844 _ _ ?_
      refine COk.seqQ fun Q845 qn845 qx845 qr845 => ?_
      refine goc hn ?_
      refine bselF hlt13 ?_
      refine goe hn ?_
      refine qx845 _ _ _ ?_
      refine qx843 _ _ _ ?_
      refine qe842 _ _ ?_
      refine qn841 _ _ ?_
      obtain rfl := Option.some.inj h7
      refine EOk.done ?_
      exact ⟨⟨_, rfl⟩, [], trivial, ⟨⟨rfl, trivial⟩, trivial, rfl, rfl⟩⟩
    · obtain ⟨hx12, hd2, hlt13⟩ := restCons hd9
      replace h7 := (tally_All_l1.eq_2 _ _ _ _ _ _).symm.trans h7
      refine COk.seqQ fun Q846 qn846 qx846 qr846 => ?_
      refine gor hn ?_
      refine qn846 _ _ ?_
      refine COk.seqQ fun Q847 qn847 qx847 qr847 => ?_
      refine goc hn ?_
      refine bselT hlt13 ?_
      refine gok hn ?_
      refine qn847 _ _ ?_
      refine COk.seqQ fun Q848 qn848 qx848 qr848 => ?_
      obtain ⟨o16, h15, h7⟩ := bindM h7
      refine COk.joinR (ι := { s : Int // o16 = s }) (fun s => [(3, .ptr 3 0), (5, .int s.1), (10, .sl 4 (List.map eTl a0)), (11, .int (a0.length : Int)), (12, .int (k2 : Int))]) (fun s => [(3, .box (eSt a1) 24)]) (fun Q925 qn925 qx925 qr925 => ?_) (by intro s; rw [hn]; rfl) ?_
      · refine COk.blkQ fun Q926 qn926 qe926 qx926 qr926 => ?_
        refine COk.seqQ fun Q927 qn927 qx927 qr927 => ?_
        refine gor hn ?_
        refine idxK hx12 ?_
        refine qn927 _ _ ?_
        refine COk.seqQ fun Q928 qn928 qx928 qr928 => ?_
        refine COk.seqQ fun Q929 qn929 qx929 qr929 => ?_
        refine gor hn ?_
        refine qn929 _ _ ?_
        refine goc hn ?_
        refine bselM h15 (fun hb17 h15 => ?_) (fun hb17 h15 => ?_)
        · refine goe hn ?_
          refine qx928 _ _ _ ?_
          refine qe926 _ _ ?_
          refine qn925 _ _ ?_
          obtain rfl := Option.some.inj h15
          refine EOk.done ?_
          exact ⟨⟨_, rfl⟩, [], trivial, ⟨⟨rfl, rfl, (by repeat (first | exact trivial | exact rfl | (refine And.intro ?_ ?_))), rfl, rfl, trivial⟩, ⟨rfl, trivial⟩, rfl, rfl⟩⟩
        · refine gok hn ?_
          refine qn928 _ _ ?_
          refine COk.seqQ fun Q930 qn930 qx930 qr930 => ?_
          refine gor hn ?_
          refine lenM (fun hl18 => ?_)
          refine qn930 _ _ ?_
          obtain ⟨o23, h24, h15⟩ := bindM h15
          refine COk.joinR (ι := { s : Int // o23 = s }) (fun s => [(3, .ptr 3 0), (5, .int s.1), (10, .sl 4 (List.map eTl a0)), (11, .int (a0.length : Int)), (12, .int (k2 : Int))]) (fun s => [(3, .box (eSt a1) 24)]) (fun Q952 qn952 qx952 qr952 => ?_) (by intro s; rw [hn]; rfl) ?_
          · refine COk.blkQ fun Q953 qn953 qe953 qx953 qr953 => ?_
            refine COk.loopQ (ι := { q : ((List Ln) × Nat × Int) // q.1 = x11.classes.drop q.2.1 ∧ tally_All_l2 N q.1 q.2.1 q.2.2 = some o23 }) (fun q => [(3, .ptr 3 0), (5, .int q.1.2.2), (10, .sl 4 (List.map eTl a0)), (11, .int (a0.length : Int)), (12, .int (k2 : Int)), (21, .sl 2 (List.map eLn x11.classes)), (22, .int (x11.classes.length : Int)), (23, .int (q.1.2.1 : Int))]) (fun q => [(3, .box (eSt a1) 24)]) (fun q => q.1.1.length) ⟨(x11.classes, 0, v3), rfl, h24⟩ [] ⟨⟨rfl, rfl, (by repeat (first | exact trivial | exact rfl | (refine And.intro ?_ ?_))), rfl, rfl, (by repeat (first | exact trivial | exact rfl | (refine And.intro ?_ ?_))), rfl, rfl, trivial⟩, ⟨rfl, trivial⟩, rfl, rfl⟩ (by intro q; rw [hn]; rfl) ?_
            rintro ⟨⟨rest_, k19, v20⟩, hd26, h24⟩ Q954 qn954 qx954 qr954
            replace hd26 : rest_ = x11.classes.drop k19 := hd26
            rcases rest_ with _ | ⟨x28, rest25⟩
            · have hlt30 := restNil hd26
              replace h24 := (tally_All_l2.eq_1 _ _ _).symm.trans h24
              refine COk.seqQ fun Q955 qn955 qx955 qr955 => ?_
              refine gor hn ?_
              refine qn955 _ _ ?_
              refine COk.seqQ fun Q956 qn956 qx956 qr956 => ?_
              refine goc hn ?_
              refine bselF hlt30 ?_
              refine goe hn ?_
              refine qx956 _ _ _ ?_
              refine qx954 _ _ _ ?_
              refine qe953 _ _ ?_
              refine qn952 _ _ ?_
              obtain rfl := Option.some.inj h24
              refine EOk.done ?_
              exact ⟨⟨_, rfl⟩, [], trivial, ⟨⟨rfl, rfl, (by repeat (first | exact trivial | exact rfl | (refine And.intro ?_ ?_))), rfl, rfl, trivial⟩, ⟨rfl, trivial⟩, rfl, rfl⟩⟩
            · obtain ⟨hx29, hd2, hlt30⟩ := restCons hd26
              replace h24 := (tally_All_l2.eq_2 _ _ _ _ _).symm.trans h24
              refine COk.seqQ fun Q957 qn957 qx957 qr957 => ?_
              refine gor hn ?_
              refine qn957 _ _ ?_
              refine COk.seqQ fun Q958 qn958 qx958 qr958 => ?_
              refine goc hn ?_
              refine bselT hlt30 ?_
              refine gok hn ?_
              refine qn958 _ _ ?_
              refine COk.seqQ fun Q959 qn959 qx959 qr959 => ?_
              refine COk.blkQ fun Q962 qn962 qe962 qx962 qr962 => ?_
              refine COk.seqQ fun Q963 qn963 qx963 qr963 => ?_
              refine gor hn ?_
              refine idxK hx29 ?_
              refine qn963 _ _ ?_
              refine gor hn ?_
              refine Or.inr ?_
              refine qn962 _ _ ?_
              refine qn959 _ _ ?_
              refine gor hn ?_
              refine Or.inl (And.intro (inrK hx29 hl18) ?_)
              refine qn954 _ _ ?_
              refine EOk.done ?_
              exact ⟨⟨(rest25, k19 + 1, (wr (v20 + x28.found))), hd2, h24⟩, [], by show rest25.length < rest25.length + 1; omega, ⟨⟨rfl, rfl, (by repeat (first | exact trivial | exact rfl | (refine And.intro ?_ ?_))), rfl, rfl, (by repeat (first | exact trivial | exact rfl | (refine And.intro ?_ ?_))), rfl, rfl, trivial⟩, ⟨rfl, trivial⟩, rfl, rfl⟩⟩
          rintro ⟨v22, hv_⟩
          replace hv_ := hv_.symm
          subst hv_
          refine qn926 _ _ ?_
          refine qn925 _ _ ?_
          obtain rfl := Option.some.inj h15
          refine EOk.done ?_
          exact ⟨⟨_, rfl⟩, [], trivial, ⟨⟨rfl, rfl, (by repeat (first | exact trivial | exact rfl | (refine And.intro ?_ ?_))), rfl, rfl, trivial⟩, ⟨rfl, trivial⟩, rfl, rfl⟩⟩
      rintro ⟨v14, hv_⟩
      replace hv_ := hv_.symm
      subst hv_
      refine qn848 _ _ ?_
      refine gor hn ?_
      refine Or.inl (And.intro (inrK hx12 hl1) ?_)
      refine qn843 _ _ ?_
      refine EOk.done ?_
      exact ⟨⟨(rest8, k2 + 1, v14), hd2, h7⟩, [], by show rest8.length < rest8.length + 1; omega, ⟨⟨rfl, rfl, (by repeat (first | exact trivial | exact rfl | (refine And.intro ?_ ?_))), rfl, rfl, trivial⟩, ⟨rfl, trivial⟩, rfl, rfl⟩⟩
  rintro ⟨v5, hv_⟩
  replace hv_ := hv_.symm
  subst hv_
  refine qn485 _ _ ?_
  refine COk.seqQ fun Q964 qn964 qx964 qr964 => ?_
  refine gor hn ?_
  refine qn964 _ _ ?_
  refine got hn ?_
  obtain rfl := Option.some.inj h
  exact ⟨[], _, rfl, (by repeat (first | exact trivial | exact rfl | (refine And.intro ?_ ?_))), trivial, rfl, rfl, rfl, rfl, rfl⟩

/- qcref1.Wrong -/
set_option maxRecDepth 100000 in
set_option maxHeartbeats 1000000 in
theorem qcref1_Wrong_ok (N : Nat) (a0 : V) (a1 : Int) (r : Int) (h : qcref1_Wrong N a0 a1 = some r) : Spec Try.prog 23 [] [.agg (eV a0), .int a1] (.int r) [] [] := by
  refine Spec.of tabOk Try.func23 rfl Try.ntmps23 (by kernel_rfl) rfl rfl rfl fun Γ hn => ?_
  unfold qcref1_Wrong at h
  refine COk.seqQ fun Q23 qn23 qx23 qr23 => ?_
  refine gor hn ?_
  refine qn23 _ _ ?_
  refine COk.seqQ fun Q24 qn24 qx24 qr24 => ?_
  refine COk.seqQ fun Q25 qn25 qx25 qr25 => ?_
  obtain ⟨o3, h2, h⟩ := bindM h
  refine COk.joinR (ι := { s : Bool // o3 = s }) (fun s => [(1, .int a1), (2, .ptr 2 0), (12, .bool s.1)]) (fun s => [(2, .box (eV a0) 45)]) (fun Q26 qn26 qx26 qr26 => ?_) (by intro s; rw [hn]; rfl) ?_
  · refine gor hn ?_
    refine bselM h2 (fun hb4 h2 => ?_) (fun hb4 h2 => ?_)
    · refine bselT hb4 ?_
      refine bselT hb4 ?_
      refine bselT hb4 ?_
      refine qn26 _ _ ?_
      obtain rfl := Option.some.inj h2
      refine EOk.done ?_
      exact ⟨⟨_, rfl⟩, [], trivial, ⟨⟨rfl, rfl, rfl, trivial⟩, ⟨rfl, trivial⟩, rfl, rfl⟩⟩
    · refine bselF hb4 ?_
      refine bselF hb4 ?_
      refine bselF hb4 ?_
      refine qn26 _ _ ?_
      obtain rfl := Option.some.inj h2
      refine EOk.done ?_
      exact ⟨⟨_, rfl⟩, [], trivial, ⟨⟨rfl, rfl, rfl, trivial⟩, ⟨rfl, trivial⟩, rfl, rfl⟩⟩
  rintro ⟨v1, hv_⟩
  replace hv_ := hv_.symm
  subst hv_
  refine qn25 _ _ ?_
  refine goc hn ?_
  refine bselM h (fun hb5 h => ?_) (fun hb5 h => ?_)
  · refine COk.seqQ fun Q28 qn28 qx28 qr28 => ?_
    refine gor hn ?_
    refine qn28 _ _ ?_
    refine got hn ?_
    refine qr24 _ _ ?_
    obtain rfl := Option.some.inj h
    exact ⟨[], _, rfl, (by repeat (first | exact trivial | exact rfl | (refine And.intro ?_ ?_))), trivial, rfl, rfl, rfl, rfl, rfl⟩
  · refine gok hn ?_
    refine qn24 _ _ ?_
    refine COk.seqQ fun Q29 qn29 qx29 qr29 => ?_
    refine COk.seqQ fun Q30 qn30 qx30 qr30 => ?_
    obtain ⟨o8, h7, h⟩ := bindM h
    refine COk.joinR (ι := { s : Bool // o8 = s }) (fun s => [(1, .int a1), (2, .ptr 2 0), (20, .bool s.1)]) (fun s => [(2, .box (eV a0) 45)]) (fun Q31 qn31 qx31 qr31 => ?_) (by intro s; rw [hn]; rfl) ?_
    · refine gor hn ?_
      refine bselM h7 (fun hb9 h7 => ?_) (fun hb9 h7 => ?_)
      · refine bselT hb9 ?_
        refine bselT hb9 ?_
        refine bselT hb9 ?_
        refine qn31 _ _ ?_
        obtain rfl := Option.some.inj h7
        refine EOk.done ?_
        exact ⟨⟨_, rfl⟩, [], trivial, ⟨⟨rfl, rfl, rfl, trivial⟩, ⟨rfl, trivial⟩, rfl, rfl⟩⟩
      · refine bselF hb9 ?_
        refine bselF hb9 ?_
        refine bselF hb9 ?_
        refine qn31 _ _ ?_
        obtain rfl := Option.some.inj h7
        refine EOk.done ?_
        exact ⟨⟨_, rfl⟩, [], trivial, ⟨⟨rfl, rfl, rfl, trivial⟩, ⟨rfl, trivial⟩, rfl, rfl⟩⟩
    rintro ⟨v6, hv_⟩
    replace hv_ := hv_.symm
    subst hv_
    refine qn30 _ _ ?_
    refine goc hn ?_
    refine bselM h (fun hb10 h => ?_) (fun hb10 h => ?_)
    · refine COk.seqQ fun Q33 qn33 qx33 qr33 => ?_
      refine gor hn ?_
      refine qn33 _ _ ?_
      refine got hn ?_
      refine qr29 _ _ ?_
      obtain rfl := Option.some.inj h
      exact ⟨[], _, rfl, (by repeat (first | exact trivial | exact rfl | (refine And.intro ?_ ?_))), trivial, rfl, rfl, rfl, rfl, rfl⟩
    · refine gok hn ?_
      refine qn29 _ _ ?_
      refine COk.seqQ fun Q34 qn34 qx34 qr34 => ?_
      refine COk.seqQ fun Q35 qn35 qx35 qr35 => ?_
      obtain ⟨o13, h12, h⟩ := bindM h
      refine COk.joinR (ι := { s : Bool // o13 = s }) (fun s => [(1, .int a1), (2, .ptr 2 0), (33, .bool s.1)]) (fun s => [(2, .box (eV a0) 45)]) (fun Q36 qn36 qx36 qr36 => ?_) (by intro s; rw [hn]; rfl) ?_
      · refine gor hn ?_
        refine bselM h12 (fun hb14 h12 => ?_) (fun hb14 h12 => ?_)
        · refine bselT hb14 ?_
          refine bselT hb14 ?_
          refine bselT hb14 ?_
          refine bselM h12 (fun hb15 h12 => ?_) (fun hb15 h12 => ?_)
          · refine bselT hb15 ?_
            refine bselT hb15 ?_
            refine bselT hb14 ?_
            refine bselT hb15 ?_
            refine bselT hb14 ?_
            refine qn36 _ _ ?_
            obtain rfl := Option.some.inj h12
            refine EOk.done ?_
            exact ⟨⟨_, rfl⟩, [], trivial, ⟨⟨rfl, rfl, rfl, trivial⟩, ⟨rfl, trivial⟩, rfl, rfl⟩⟩
          · refine bselF hb15 ?_
            refine bselF hb15 ?_
            refine bselT hb14 ?_
            refine bselF hb15 ?_
            refine bselT hb14 ?_
            refine qn36 _ _ ?_
            obtain rfl := Option.some.inj h12
            refine EOk.done ?_
            exact ⟨⟨_, rfl⟩, [], trivial, ⟨⟨rfl, rfl, rfl, trivial⟩, ⟨rfl, trivial⟩, rfl, rfl⟩⟩
        · refine bselF hb14 ?_
          refine bselF hb14 ?_
          refine bselF hb14 ?_
          refine bselF hb14 ?_
          refine bselF hb14 ?_
          refine qn36 _ _ ?_
          obtain rfl := Option.some.inj h12
          refine EOk.done ?_
          exact ⟨⟨_, rfl⟩, [], trivial, ⟨⟨rfl, rfl, rfl, trivial⟩, ⟨rfl, trivial⟩, rfl, rfl⟩⟩
      rintro ⟨v11, hv_⟩
      replace hv_ := hv_.symm
      subst hv_
      refine qn35 _ _ ?_
      refine goc hn ?_
      refine bselM h (fun hb16 h => ?_) (fun hb16 h => ?_)
      · refine COk.seqQ fun Q38 qn38 qx38 qr38 => ?_
        refine gor hn ?_
        refine qn38 _ _ ?_
        refine got hn ?_
        refine qr34 _ _ ?_
        obtain rfl := Option.some.inj h
        exact ⟨[], _, rfl, (by repeat (first | exact trivial | exact rfl | (refine And.intro ?_ ?_))), trivial, rfl, rfl, rfl, rfl, rfl⟩
      · refine gok hn ?_
        refine qn34 _ _ ?_
        refine COk.seqQ fun Q39 qn39 qx39 qr39 => ?_
        refine COk.seqQ fun Q40 qn40 qx40 qr40 => ?_
        obtain ⟨o19, h18, h⟩ := bindM h
        refine COk.joinR (ι := { s : Bool // o19 = s }) (fun s => [(47, .bool s.1)]) (fun s => []) (fun Q41 qn41 qx41 qr41 => ?_) (by intro s; rw [hn]; rfl) ?_
        · refine gor hn ?_
          refine bselM h18 (fun hb20 h18 => ?_) (fun hb20 h18 => ?_)
          · refine bselT hb20 ?_
            refine bselT hb20 ?_
            refine bselT hb20 ?_
            refine bselM h18 (fun hb21 h18 => ?_) (fun hb21 h18 => ?_)
            · refine bselT hb21 ?_
              refine bselT hb21 ?_
              refine bselT hb21 ?_
              refine bselT hb20 ?_
              refine bselT hb21 ?_
              refine bselT hb20 ?_
              refine qn41 _ _ ?_
              obtain rfl := Option.some.inj h18
              refine EOk.done ?_
              exact ⟨⟨_, rfl⟩, [], trivial, ⟨⟨rfl, trivial⟩, trivial, rfl, rfl⟩⟩
            · refine bselF hb21 ?_
              refine bselF hb21 ?_
              refine bselF hb21 ?_
              refine bselT hb20 ?_
              refine bselF hb21 ?_
              refine bselT hb20 ?_
              refine qn41 _ _ ?_
              obtain rfl := Option.some.inj h18
              refine EOk.done ?_
              exact ⟨⟨_, rfl⟩, [], trivial, ⟨⟨rfl, trivial⟩, trivial, rfl, rfl⟩⟩
          · refine bselF hb20 ?_
            refine bselF hb20 ?_
            refine bselF hb20 ?_
            refine bselF hb20 ?_
            refine bselF hb20 ?_
            refine qn41 _ _ ?_
            obtain rfl := Option.some.inj h18
            refine EOk.done ?_
            exact ⟨⟨_, rfl⟩, [], trivial, ⟨⟨rfl, trivial⟩, trivial, rfl, rfl⟩⟩
        rintro ⟨v17, hv_⟩
        replace hv_ := hv_.symm
        subst hv_
        refine qn40 _ _ ?_
        refine goc hn ?_
        refine bselM h (fun hb22 h => ?_) (fun hb22 h => ?_)
        · refine COk.seqQ fun Q43 qn43 qx43 qr43 => ?_
          refine gor hn ?_
          refine qn43 _ _ ?_
          refine got hn ?_
          refine qr39 _ _ ?_
          obtain rfl := Option.some.inj h
          exact ⟨[], _, rfl, (by repeat (first | exact trivial | exact rfl | (refine And.intro ?_ ?_))), trivial, rfl, rfl, rfl, rfl, rfl⟩
        · refine gok hn ?_
          refine qn39 _ _ ?_
          refine COk.seqQ fun Q44 qn44 qx44 qr44 => ?_
          refine gor hn ?_
          refine qn44 _ _ ?_
          refine got hn ?_
          obtain rfl := Option.some.inj h
          exact ⟨[], _, rfl, (by repeat (first | exact trivial | exact rfl | (refine And.intro ?_ ?_))), trivial, rfl, rfl, rfl, rfl, rfl⟩

/- qcref1.Name -/
set_option maxRecDepth 100000 in
set_option maxHeartbeats 1000000 in
theorem qcref1_Name_ok (N : Nat) (a0 : ByteArray) (r : Bool) (h : qcref1_Name N a0 = some r) : Spec Try.prog 64 [] [.str a0] (.bool r) [] [] := by
  refine Spec.of tabOk Try.func64 rfl Try.ntmps64 (by kernel_rfl) rfl rfl rfl fun Γ hn => ?_
  unfold qcref1_Name at h
  refine COk.seqQ fun Q56 qn56 qx56 qr56 => ?_
  refine gor hn ?_
  refine qn56 _ _ ?_
  refine COk.seqQ fun Q57 qn57 qx57 qr57 => ?_
  refine COk.seqQ fun Q58 qn58 qx58 qr58 => ?_
  refine gor hn ?_
  intro hl1
  refine qn58 _ _ ?_
  refine COk.rng 5 rfl (fun hrn => ?_)
  obtain ⟨o3, h4, h⟩ := bindM h
  refine COk.joinR (ι := { s : Unit // o3 = Ctl.next s }) (fun s => [(0, .str a0)]) (fun s => []) (fun Q89 qn89 qx89 qr89 => ?_) (by intro s; rw [hn]; rfl) ?_
  · refine COk.blkQ fun Q90 qn90 qe90 qx90 qr90 => ?_
    refine COk.loopQ (ι := { q : (Nat × Nat) // q.1 = ((a0.size : Int) - (q.2 : Int)).toNat ∧ qcref1_Name_l1 N a0 q.1 q.2 = some o3 }) (fun q => [(0, .str a0), (5, .int (a0.size : Int)), (6, .int (q.1.2 : Int))]) (fun q => []) (fun q => q.1.1) ⟨(((a0.size : Int) - ((0 : Nat) : Int)).toNat, 0), rfl, h4⟩ [] ⟨⟨rfl, rfl, rfl, trivial⟩, trivial, rfl, rfl⟩ (by intro q; rw [hn]; rfl) ?_
    rintro ⟨⟨n_, k2⟩, hd6, h4⟩ Q91 qn91 qx91 qr91
    replace hd6 : n_ = ((a0.size : Int) - (k2 : Int)).toNat := hd6
    rcases n_ with _ | n7
    · have hlt10 := upNil hd6
      replace h4 := (qcref1_Name_l1.eq_1 _ _ _).symm.trans h4
      refine COk.seqQ fun Q92 qn92 qx92 qr92 => ?_
      refine gor hn ?_
      refine qn92 _ _ ?_
      refine COk.seqQ fun Q93 qn93 qx93 qr93 => ?_
      refine goc hn ?_
      refine bselF hlt10 ?_
      refine goe hn ?_
      refine qx93 _ _ _ ?_
      refine qx91 _ _ _ ?_
      refine qe90 _ _ ?_
      refine qn89 _ _ ?_
      obtain rfl := Option.some.inj h4
      refine EOk.done ?_
      exact ⟨⟨_, rfl⟩, [], trivial, ⟨⟨rfl, trivial⟩, trivial, rfl, rfl⟩⟩
    · obtain ⟨hd2, hlt10⟩ := upCons hd6
      replace h4 := (qcref1_Name_l1.eq_2 _ _ _ _).symm.trans h4
      refine COk.seqQ fun Q94 qn94 qx94 qr94 => ?_
      refine gor hn ?_
      refine qn94 _ _ ?_
      refine COk.seqQ fun Q95 qn95 qx95 qr95 => ?_
      refine goc hn ?_
      refine bselT hlt10 ?_
      refine gok hn ?_
      refine qn95 _ _ ?_
      refine COk.seqQ fun Q96 qn96 qx96 qr96 => ?_
      refine COk.blkQ fun Q103 qn103 qe103 qx103 qr103 => ?_
      refine COk.seqQ fun Q104 qn104 qx104 qr104 => ?_
      refine gor hn ?_
      refine qn104 _ _ ?_
      refine COk.seqQ fun Q105 qn105 qx105 qr105 => ?_
      obtain ⟨o13, h12, h4⟩ := bindM h4
      refine COk.joinR (ι := { s : Bool // o13 = s }) (fun s => [(0, .str a0), (5, .int (a0.size : Int)), (6, .int (k2 : Int)), (18, .bool s.1)]) (fun s => []) (fun Q106 qn106 qx106 qr106 => ?_) (by intro s; rw [hn]; rfl) ?_
      · refine gor hn ?_
        obtain ⟨u14, hx15, h12⟩ := bindM h12
        refine byM hx15 ?_
        refine And.intro rfl ?_
        refine bselM h12 (fun hb16 h12 => ?_) (fun hb16 h12 => ?_)
        · refine bselT hb16 ?_
          refine bselT hb16 ?_
          refine bselT hb16 ?_
          refine bselT hb16 ?_
          refine qn106 _ _ ?_
          obtain rfl := Option.some.inj h12
          refine EOk.done ?_
          exact ⟨⟨_, rfl⟩, [], trivial, ⟨⟨rfl, rfl, rfl, rfl, trivial⟩, trivial, rfl, rfl⟩⟩
        · refine bselF hb16 ?_
          refine bselF hb16 ?_
          obtain ⟨u17, hx18, h12⟩ := bindM h12
          refine byM hx18 ?_
          refine bselF hb16 ?_
          refine And.intro rfl ?_
          refine bselF hb16 ?_
          refine qn106 _ _ ?_
          obtain rfl := Option.some.inj h12
          refine EOk.done ?_
          exact ⟨⟨_, rfl⟩, [], trivial, ⟨⟨rfl, rfl, rfl, rfl, trivial⟩, trivial, rfl, rfl⟩⟩
      rintro ⟨v11, hv_⟩
      replace hv_ := hv_.symm
      subst hv_
      refine qn105 _ _ ?_
      refine goc hn ?_
      refine bselM h4 (fun hb19 h4 => ?_) (fun hb19 h4 => ?_)
      · refine COk.seqQ fun Q108 qn108 qx108 qr108 => ?_
        refine gor hn ?_
        refine qn108 _ _ ?_
        refine got hn ?_
        refine qr103 _ _ ?_
        refine qr96 _ _ ?_
        refine qr91 _ _ ?_
        refine qr90 _ _ ?_
        refine qr89 _ _ ?_
        refine qr57 _ _ ?_
        obtain rfl := Option.some.inj h4
        obtain rfl := Option.some.inj h
        exact ⟨[], _, rfl, (by repeat (first | exact trivial | exact rfl | (refine And.intro ?_ ?_))), trivial, rfl, rfl, rfl, rfl, rfl⟩
      · refine gok hn ?_
        refine qn103 _ _ ?_
        refine qn96 _ _ ?_
        refine gor hn ?_
        refine Or.inl (And.intro (inrU hlt10 hrn) ?_)
        refine qn91 _ _ ?_
        refine EOk.done ?_
        exact ⟨⟨(n7, k2 + 1), hd2, h4⟩, [], by show n7 < n7 + 1; omega, ⟨⟨rfl, rfl, rfl, trivial⟩, trivial, rfl, rfl⟩⟩
  rintro ⟨⟨⟩, rfl⟩
  refine qn57 _ _ ?_
  refine COk.seqQ fun Q109 qn109 qx109 qr109 => ?_
  obtain ⟨o22, h21, h⟩ := bindM h
  refine COk.joinR (ι := { s : Bool // o22 = s }) (fun s => [(2, .bool s.1)]) (fun s => []) (fun Q110 qn110 qx110 qr110 => ?_) (by intro s; rw [hn]; rfl) ?_
  · refine gor hn ?_
    intro hl23
    refine bselM h21 (fun hb24 h21 => ?_) (fun hb24 h21 => ?_)
    · refine bselT hb24 ?_
      intro hl25
      refine bselT hb24 ?_
      refine bselT hb24 ?_
      refine qn110 _ _ ?_
      obtain rfl := Option.some.inj h21
      refine EOk.done ?_
      exact ⟨⟨_, rfl⟩, [], trivial, ⟨⟨rfl, trivial⟩, trivial, rfl, rfl⟩⟩
    · refine bselF hb24 ?_
      refine bselF hb24 ?_
      refine bselF hb24 ?_
      refine qn110 _ _ ?_
      obtain rfl := Option.some.inj h21
      refine EOk.done ?_
      exact ⟨⟨_, rfl⟩, [], trivial, ⟨⟨rfl, trivial⟩, trivial, rfl, rfl⟩⟩
  rintro ⟨v20, hv_⟩
  replace hv_ := hv_.symm
  subst hv_
  refine qn109 _ _ ?_
  refine got hn ?_
  obtain rfl := Option.some.inj h
  exact ⟨[], _, rfl, (by repeat (first | exact trivial | exact rfl | (refine And.intro ?_ ?_))), trivial, rfl, rfl, rfl, rfl, rfl⟩

/- qcref1.Ups -/
set_option maxRecDepth 100000 in
set_option maxHeartbeats 1000000 in
theorem qcref1_Ups_ok (N : Nat) (a0 : Wd) (a1 : Int) (r : (List Int)) (h : qcref1_Ups N a0 a1 = some r) : Spec Try.prog 71 [] [.agg (eWd a0), .int a1] (.own 0) [(0, .row 1 (List.map eInt r) 3)] [0] := by
  refine Spec.of tabOk Try.func71 rfl Try.ntmps71 (by kernel_rfl) rfl rfl rfl fun Γ hn => ?_
  unfold qcref1_Ups at h
  refine COk.seqQ fun Q43 qn43 qx43 qr43 => ?_
  refine gor hn ?_
  refine qn43 _ _ ?_
  refine COk.seqQ fun Q44 qn44 qx44 qr44 => ?_
  refine gor hn ?_
  refine qn44 _ _ ?_
  refine COk.seqQ fun Q45 qn45 qx45 qr45 => ?_
  refine COk.nilrow 5 205 1 3 rfl rfl rfl ?_
  obtain ⟨o7, h8, h⟩ := bindM h
  refine COk.joinR (ι := { s : (List Int) // o7 = s }) (fun s => [(5, .own 205)]) (fun s => [(205, .row 1 (List.map eInt s.1) 3)]) (fun Q74 qn74 qx74 qr74 => ?_) (by intro s; rw [hn]; rfl) ?_
  · refine COk.blkQ fun Q75 qn75 qe75 qx75 qr75 => ?_
    refine COk.loopQ (ι := { q : (Nat × Int × (List Int)) // qcref1_Ups_l1 N a0 q.1 q.2.1 q.2.2 = some o7 }) (fun q => [(1, .int q.1.2.1), (2, .ptr 2 0), (5, .own 205)]) (fun q => [(2, .box (eWd a0) 55), (205, .row 1 (List.map eInt q.1.2.2) 3)]) (fun q => q.1.1) ⟨(N, a1, ([] : List Int)), h8⟩ [] ⟨⟨rfl, rfl, rfl, trivial⟩, ⟨rfl, rfl, trivial⟩, rfl, rfl⟩ (by intro q; rw [hn]; rfl) ?_
    rintro ⟨⟨n_, v2, v3⟩, h8⟩ Q76 qn76 qx76 qr76
    rcases n_ with _ | n11
    · rw [qcref1_Ups_l1.eq_1] at h8
      cases h8
    · replace h8 := (qcref1_Ups_l1.eq_2 _ _ _ _ _).symm.trans h8
      refine COk.seqQ fun Q77 qn77 qx77 qr77 => ?_
      refine COk.seqQ fun Q78 qn78 qx78 qr78 => ?_
      obtain ⟨o14, h13, h8⟩ := bindM h8
      refine COk.joinR (ι := { s : Bool // o14 = s }) (fun s => [(1, .int v2), (2, .ptr 2 0), (5, .own 205), (22, .bool s.1)]) (fun s => [(2, .box (eWd a0) 55), (205, .row 1 (List.map eInt v3) 3)]) (fun Q79 qn79 qx79 qr79 => ?_) (by intro s; rw [hn]; rfl) ?_
      · refine gor hn ?_
        refine bselM h13 (fun hb15 h13 => ?_) (fun hb15 h13 => ?_)
        · refine bselT hb15 ?_
          refine bselT hb15 ?_
          refine bselT hb15 ?_
          refine lenM (fun hl16 => ?_)
          refine bselT hb15 ?_
          refine bselT hb15 ?_
          refine bselM h13 (fun hb17 h13 => ?_) (fun hb17 h13 => ?_)
          · refine bselT hb17 ?_
            refine lenM (fun hl18 => ?_)
            refine bselT hb17 ?_
            refine bselT hb17 ?_
            refine bselT hb17 ?_
            refine lenM (fun hl19 => ?_)
            refine bselT hb17 ?_
            refine bselT hb17 ?_
            refine qn79 _ _ ?_
            obtain rfl := Option.some.inj h13
            refine EOk.done ?_
            exact ⟨⟨_, rfl⟩, [], trivial, ⟨⟨rfl, rfl, rfl, rfl, trivial⟩, ⟨rfl, rfl, trivial⟩, rfl, rfl⟩⟩
          · refine bselF hb17 ?_
            refine bselF hb17 ?_
            refine bselF hb17 ?_
            refine bselF hb17 ?_
            refine bselF hb17 ?_
            refine bselF hb17 ?_
            refine qn79 _ _ ?_
            obtain rfl := Option.some.inj h13
            refine EOk.done ?_
            exact ⟨⟨_, rfl⟩, [], trivial, ⟨⟨rfl, rfl, rfl, rfl, trivial⟩, ⟨rfl, rfl, trivial⟩, rfl, rfl⟩⟩
        · refine bselF hb15 ?_
          refine bselF hb15 ?_
          refine bselF hb15 ?_
          refine bselF hb15 ?_
          refine bselF hb15 ?_
          refine qn79 _ _ ?_
          obtain rfl := Option.some.inj h13
          refine EOk.done ?_
          exact ⟨⟨_, rfl⟩, [], trivial, ⟨⟨rfl, rfl, rfl, rfl, trivial⟩, ⟨rfl, rfl, trivial⟩, rfl, rfl⟩⟩
      rintro ⟨v12, hv_⟩
      replace hv_ := hv_.symm
      subst hv_
      refine qn78 _ _ ?_
      refine goc hn ?_
      refine bselM h8 (fun hb20 h8 => ?_) (fun hb20 h8 => ?_)
      · refine gok hn ?_
        refine qn77 _ _ ?_
        refine COk.blkQ fun Q82 qn82 qe82 qx82 qr82 => ?_
        refine COk.seqQ fun Q83 qn83 qx83 qr83 => ?_
        refine gor hn ?_
        refine Exists.intro (List.map eInt [v2]) (And.intro (by repeat (first | exact trivial | exact rfl | (refine And.intro ?_ ?_))) ?_)
        obtain ⟨hg21, h8⟩ := guardM h8
        refine appM (l2 := [v2]) hg21 (leLs_refl _) ?_
        refine qn83 _ _ ?_
        refine gor hn ?_
        obtain ⟨x22, hx23, h8⟩ := bindM h8
        refine idxM hx23 ?_
        refine qn82 _ _ ?_
        refine qn76 _ _ ?_
        refine EOk.done ?_
        exact ⟨⟨(n11, x22.super, (v3 ++ [v2])), h8⟩, [(205, 26)], by show n11 < n11 + 1; omega, ⟨⟨rfl, rfl, rfl, trivial⟩, ⟨rfl, rfl, trivial⟩, rfl, rfl⟩⟩
      · refine goe hn ?_
        refine qx77 _ _ _ ?_
        refine qx76 _ _ _ ?_
        refine qe75 _ _ ?_
        refine qn74 _ _ ?_
        obtain rfl := Option.some.inj h8
        refine EOk.done ?_
        exact ⟨⟨_, rfl⟩, [], trivial, ⟨⟨rfl, trivial⟩, ⟨rfl, trivial⟩, rfl, rfl⟩⟩
  rintro ⟨v6, hv_⟩
  replace hv_ := hv_.symm
  subst hv_
  refine qn45 _ _ ?_
  refine COk.seqQ fun Q84 qn84 qx84 qr84 => ?_
  refine gor hn ?_
  refine qn84 _ _ ?_
  refine got hn ?_
  obtain rfl := Option.some.inj h
  exact ⟨[(0, 205)], _, rfl, (by repeat (first | exact trivial | exact rfl | (refine And.intro ?_ ?_))), ⟨rfl, trivial⟩, rfl, rfl, rfl, rfl, rfl⟩

/- qcref1.Slots -/
set_option maxRecDepth 100000 in
set_option maxHeartbeats 1000000 in
theorem qcref1_Slots_ok (N : Nat) (a0 : Wd) (a1 : Int) (r : Int) (h : qcref1_Slots N a0 a1 = some r) : Spec Try.prog 65 [] [.agg (eWd a0), .int a1] (.int r) [] [] := by
  refine Spec.of tabOk Try.func65 rfl Try.ntmps65 (by kernel_rfl) rfl rfl rfl fun Γ hn => ?_
  unfold qcref1_Slots at h
  refine COk.seqQ fun Q39 qn39 qx39 qr39 => ?_
  refine gor hn ?_
  refine qn39 _ _ ?_
  refine COk.seqQ fun Q40 qn40 qx40 qr40 => ?_
  refine gor hn ?_
  refine qn40 _ _ ?_
  refine COk.seqQ fun Q41 qn41 qx41 qr41 => ?_
  refine COk.seqQ fun Q42 qn42 qx42 qr42 => ?_
  refine gor hn ?_
  obtain ⟨r1, hr2, h⟩ := bindM h
  show CallOk Try.prog _ _ _ _
  refine CallOk.as ((qcref1_Ups_ok N a0 a1 r1 hr2).sw 0 10) (by repeat (first | exact trivial | exact rfl | (refine And.intro ?_ ?_))) trivial rfl ?_
  refine lenM (fun hl3 => ?_)
  refine qn42 _ _ ?_
  obtain ⟨o8, h9, h⟩ := bindM h
  refine COk.joinR (ι := { s : Int // o8 = s }) (fun s => [(5, .int s.1)]) (fun s => []) (fun Q64 qn64 qx64 qr64 => ?_) (by intro s; rw [hn]; rfl) ?_
  · refine COk.blkQ fun Q65 qn65 qe65 qx65 qr65 => ?_
    refine COk.loopQ (ι := { q : ((List Int) × Nat × Int) // q.1 = r1.drop q.2.1 ∧ qcref1_Slots_l1 N a0 r1 q.1 q.2.1 q.2.2 = some o8 }) (fun q => [(2, .ptr 2 0), (5, .int q.1.2.2), (10, .own 10), (11, .int (r1.length : Int)), (12, .int (q.1.2.1 : Int))]) (fun q => [(2, .box (eWd a0) 55), (10, .row 1 (List.map eInt r1) 3)]) (fun q => q.1.1.length) ⟨(r1, 0, (0 : Int)), rfl, h9⟩ [] ⟨⟨rfl, rfl, rfl, rfl, rfl, trivial⟩, ⟨rfl, rfl, trivial⟩, rfl, rfl⟩ (by intro q; rw [hn]; rfl) ?_
    rintro ⟨⟨rest_, k4, v5⟩, hd11, h9⟩ Q66 qn66 qx66 qr66
    replace hd11 : rest_ = r1.drop k4 := hd11
    rcases rest_ with _ | ⟨x13, rest10⟩
    · have hlt15 := restNil hd11
      replace h9 := (qcref1_Slots_l1.eq_1 _ _ _ _ _).symm.trans h9
      refine COk.seqQ fun Q67 qn67 qx67 qr67 => ?_
      refine gor hn ?_
      refine qn67 _ _ ?_
      refine COk.seqQ fun Q68 qn68 qx68 qr68 => ?_
      refine goc hn ?_
      refine bselF hlt15 ?_
      refine goe hn ?_
      refine qx68 _ _ _ ?_
      refine qx66 _ _ _ ?_
      refine qe65 _ _ ?_
      refine qn64 _ _ ?_
      obtain rfl := Option.some.inj h9
      refine EOk.done ?_
      exact ⟨⟨_, rfl⟩, [], trivial, ⟨⟨rfl, trivial⟩, trivial, rfl, rfl⟩⟩
    · obtain ⟨hx14, hd2, hlt15⟩ := restCons hd11
      replace h9 := (qcref1_Slots_l1.eq_2 _ _ _ _ _ _ _).symm.trans h9
      refine COk.seqQ fun Q69 qn69 qx69 qr69 => ?_
      refine gor hn ?_
      refine qn69 _ _ ?_
      refine COk.seqQ fun Q70 qn70 qx70 qr70 => ?_
      refine goc hn ?_
      refine bselT hlt15 ?_
      refine gok hn ?_
      refine qn70 _ _ ?_
      refine COk.seqQ fun Q71 qn71 qx71 qr71 => ?_
      refine COk.blkQ fun Q74 qn74 qe74 qx74 qr74 => ?_
      refine COk.seqQ fun Q75 qn75 qx75 qr75 => ?_
      refine gor hn ?_
      obtain ⟨x16, hx17, h9⟩ := bindM h9
      refine ownM hx17 ?_
      refine ldM (nthO_some hx17).2 ?_
      refine qn75 _ _ ?_
      refine gor hn ?_
      obtain ⟨x18, hx19, h9⟩ := bindM h9
      refine idxM hx19 ?_
      refine Or.inr ?_
      refine qn74 _ _ ?_
      refine qn71 _ _ ?_
      refine COk.sub (ts2 := [(2, .ptr 2 0), (5, .int (wr (v5 + x18.slots))), (10, .own 10), (11, .int (r1.length : Int)), (12, .int (k4 : Int))]) (os2 := [(2, .box (eWd a0) 55), (10, .row 1 (List.map eInt r1) 3)]) [] ⟨⟨rfl, rfl, rfl, rfl, rfl, trivial⟩, ⟨rfl, rfl, trivial⟩, rfl, rfl⟩ (by rw [hn]; rfl) ?_
      refine gor hn ?_
      refine Or.inl (And.intro (inrK hx14 hl3) ?_)
      refine qn66 _ _ ?_
      refine EOk.done ?_
      exact ⟨⟨(rest10, k4 + 1, (wr (v5 + x18.slots))), hd2, h9⟩, [], by show rest10.length < rest10.length + 1; omega, ⟨⟨rfl, rfl, rfl, rfl, rfl, trivial⟩, ⟨rfl, rfl, trivial⟩, rfl, rfl⟩⟩
  rintro ⟨v7, hv_⟩
  replace hv_ := hv_.symm
  subst hv_
  refine qn41 _ _ ?_
  refine COk.seqQ fun Q76 qn76 qx76 qr76 => ?_
  refine gor hn ?_
  refine qn76 _ _ ?_
  refine got hn ?_
  obtain rfl := Option.some.inj h
  exact ⟨[], _, rfl, (by repeat (first | exact trivial | exact rfl | (refine And.intro ?_ ?_))), trivial, rfl, rfl, rfl, rfl, rfl⟩

/- qcref1.Numbers -/
set_option maxRecDepth 100000 in
set_option maxHeartbeats 1000000 in
theorem qcref1_Numbers_ok (N : Nat) (a0 : Wd) (a1 : Int) (a2 : Me) (a3 : Ins) (r : Int) (h : qcref1_Numbers N a0 a1 a2 a3 = some r) : Spec Try.prog 74 [] [.agg (eWd a0), .int a1, .agg (eMe a2), .agg (eIns a3)] (.int r) [] [] := by
  refine Spec.of tabOk Try.func74 rfl Try.ntmps74 (by kernel_rfl) rfl rfl rfl fun Γ hn => ?_
  unfold qcref1_Numbers at h
  refine COk.seqQ fun Q35150 qn35150 qx35150 qr35150 => ?_
  refine gor hn ?_
  refine qn35150 _ _ ?_
  refine COk.seqQ fun Q35151 qn35151 qx35151 qr35151 => ?_
  refine gor hn ?_
  refine qn35151 _ _ ?_
  refine COk.seqQ fun Q35152 qn35152 qx35152 qr35152 => ?_
  refine COk.seqQ fun Q35153 qn35153 qx35153 qr35153 => ?_
  refine gor hn ?_
  refine qn35153 _ _ ?_
  refine COk.blkQ fun Q52721 qn52721 qe52721 qx52721 qr52721 => ?_
  refine COk.seqQ fun Q52722 qn52722 qx52722 qr52722 => ?_
  refine COk.seqQ fun Q52723 qn52723 qx52723 qr52723 => ?_
  refine gor hn ?_
  refine qn52723 _ _ ?_
  obtain ⟨o3, h2, h⟩ := bindM h
  refine COk.joinR (ι := { s : Bool // o3 = s }) (fun s => [(1, .int a1), (4, .ptr 4 0), (6, .ptr 6 0), (7, .ptr 7 0), (9, .int (0 : Int)), (10, .int (0 : Int)), (12, .int a3.op), (13, .bool s.1)]) (fun s => [(4, .box (eWd a0) 55), (6, .box (eMe a2) 74), (7, .box (eIns a3) 81)]) (fun Q53208 qn53208 qx53208 qr53208 => ?_) (by intro s; rw [hn]; rfl) ?_
  · refine goc hn ?_
    refine bselM h2 (fun hb4 h2 => ?_) (fun hb4 h2 => ?_)
    · refine gok hn ?_
      refine qn53208 _ _ ?_
      obtain rfl := Option.some.inj h2
      refine EOk.done ?_
      exact ⟨⟨_, rfl⟩, [], trivial, ⟨⟨rfl, rfl, rfl, rfl, rfl, rfl, rfl, rfl, trivial⟩, ⟨rfl, rfl, rfl, trivial⟩, rfl, rfl⟩⟩
    · refine COk.seqQ fun Q53209 qn53209 qx53209 qr53209 => ?_
      refine gor hn ?_
      refine qn53209 _ _ ?_
      obtain ⟨o7, h6, h2⟩ := bindM h2
      refine COk.joinR (ι := { s : Bool // o7 = s }) (fun s => [(1, .int a1), (4, .ptr 4 0), (6, .ptr 6 0), (7, .ptr 7 0), (9, .int (0 : Int)), (10, .int (0 : Int)), (12, .int a3.op), (13, .bool s.1)]) (fun s => [(4, .box (eWd a0) 55), (6, .box (eMe a2) 74), (7, .box (eIns a3) 81)]) (fun Q53370 qn53370 qx53370 qr53370 => ?_) (by intro s; rw [hn]; rfl) ?_
      · refine goc hn ?_
        refine bselM h6 (fun hb8 h6 => ?_) (fun hb8 h6 => ?_)
        · refine gok hn ?_
          refine qn53370 _ _ ?_
          obtain rfl := Option.some.inj h6
          refine EOk.done ?_
          exact ⟨⟨_, rfl⟩, [], trivial, ⟨⟨rfl, rfl, rfl, rfl, rfl, rfl, rfl, rfl, trivial⟩, ⟨rfl, rfl, rfl, trivial⟩, rfl, rfl⟩⟩
        · refine COk.seqQ fun Q53371 qn53371 qx53371 qr53371 => ?_
          refine gor hn ?_
          refine qn53371 _ _ ?_
          obtain ⟨o11, h10, h6⟩ := bindM h6
          refine COk.joinR (ι := { s : Bool // o11 = s }) (fun s => [(1, .int a1), (4, .ptr 4 0), (6, .ptr 6 0), (7, .ptr 7 0), (9, .int (0 : Int)), (10, .int (0 : Int)), (12, .int a3.op), (13, .bool s.1)]) (fun s => [(4, .box (eWd a0) 55), (6, .box (eMe a2) 74), (7, .box (eIns a3) 81)]) (fun Q53424 qn53424 qx53424 qr53424 => ?_) (by intro s; rw [hn]; rfl) ?_
          · refine goc hn ?_
            refine bselM h10 (fun hb12 h10 => ?_) (fun hb12 h10 => ?_)
            · refine gok hn ?_
              refine qn53424 _ _ ?_
              obtain rfl := Option.some.inj h10
              refine EOk.done ?_
              exact ⟨⟨_, rfl⟩, [], trivial, ⟨⟨rfl, rfl, rfl, rfl, rfl, rfl, rfl, rfl, trivial⟩, ⟨rfl, rfl, rfl, trivial⟩, rfl, rfl⟩⟩
            · refine COk.seqQ fun Q53425 qn53425 qx53425 qr53425 => ?_
              refine gor hn ?_
              refine qn53425 _ _ ?_
              obtain ⟨o15, h14, h10⟩ := bindM h10
              refine COk.joinR (ι := { s : Bool // o15 = s }) (fun s => [(1, .int a1), (4, .ptr 4 0), (6, .ptr 6 0), (7, .ptr 7 0), (9, .int (0 : Int)), (10, .int (0 : Int)), (12, .int a3.op), (13, .bool s.1)]) (fun s => [(4, .box (eWd a0) 55), (6, .box (eMe a2) 74), (7, .box (eIns a3) 81)]) (fun Q53442 qn53442 qx53442 qr53442 => ?_) (by intro s; rw [hn]; rfl) ?_
              · refine goc hn ?_
                refine bselM h14 (fun hb16 h14 => ?_) (fun hb16 h14 => ?_)
                · refine gok hn ?_
                  refine qn53442 _ _ ?_
                  obtain rfl := Option.some.inj h14
                  refine EOk.done ?_
                  exact ⟨⟨_, rfl⟩, [], trivial, ⟨⟨rfl, rfl, rfl, rfl, rfl, rfl, rfl, rfl, trivial⟩, ⟨rfl, rfl, rfl, trivial⟩, rfl, rfl⟩⟩
                · refine COk.seqQ fun Q53443 qn53443 qx53443 qr53443 => ?_
                  refine COk.sub (ts2 := [(1, .int a1), (4, .ptr 4 0), (6, .ptr 6 0), (7, .ptr 7 0), (9, .int (0 : Int)), (10, .int (0 : Int)), (12, .int a3.op)]) (os2 := [(4, .box (eWd a0) 55), (6, .box (eMe a2) 74), (7, .box (eIns a3) 81)]) [] ⟨⟨rfl, rfl, rfl, rfl, rfl, rfl, rfl, trivial⟩, ⟨rfl, rfl, rfl, trivial⟩, rfl, rfl⟩ (by rw [hn]; rfl) ?_
                  refine gor hn ?_
                  refine qn53443 _ _ ?_
                  obtain ⟨o19, h18, h14⟩ := bindM h14
                  refine COk.joinR (ι := { s : Bool // o19 = s }) (fun s => [(1, .int a1), (4, .ptr 4 0), (6, .ptr 6 0), (7, .ptr 7 0), (9, .int (0 : Int)), (10, .int (0 : Int)), (12, .int a3.op), (13, .bool s.1)]) (fun s => [(4, .box (eWd a0) 55), (6, .box (eMe a2) 74), (7, .box (eIns a3) 81)]) (fun Q53448 qn53448 qx53448 qr53448 => ?_) (by intro s; rw [hn]; rfl) ?_
                  · refine goc hn ?_
                    refine bselM h18 (fun hb20 h18 => ?_) (fun hb20 h18 => ?_)
                    · refine gok hn ?_
                      refine qn53448 _ _ ?_
                      obtain rfl := Option.some.inj h18
                      refine EOk.done ?_
                      exact ⟨⟨_, rfl⟩, [], trivial, ⟨⟨rfl, rfl, rfl, rfl, rfl, rfl, rfl, rfl, trivial⟩, ⟨rfl, rfl, rfl, trivial⟩, rfl, rfl⟩⟩
                    · refine COk.seqQ fun Q53449 qn53449 qx53449 qr53449 => ?_
                      refine gor hn ?_
                      refine qn53449 _ _ ?_
                      obtain ⟨o23, h22, h18⟩ := bindM h18
                      refine COk.joinR (ι := { s : Bool // o23 = s }) (fun s => [(1, .int a1), (4, .ptr 4 0), (6, .ptr 6 0), (7, .ptr 7 0), (9, .int (0 : Int)), (10, .int (0 : Int)), (12, .int a3.op), (13, .bool s.1)]) (fun s => [(4, .box (eWd a0) 55), (6, .box (eMe a2) 74), (7, .box (eIns a3) 81)]) (fun Q53450 qn53450 qx53450 qr53450 => ?_) (by intro s; rw [hn]; rfl) ?_
                      · refine goc hn ?_
                        refine bselM h22 (fun hb24 h22 => ?_) (fun hb24 h22 => ?_)
                        · refine gok hn ?_
                          refine qn53450 _ _ ?_
                          obtain rfl := Option.some.inj h22
                          refine EOk.done ?_
                          exact ⟨⟨_, rfl⟩, [], trivial, ⟨⟨rfl, rfl, rfl, rfl, rfl, rfl, rfl, rfl, trivial⟩, ⟨rfl, rfl, rfl, trivial⟩, rfl, rfl⟩⟩
                        · refine gor hn ?_
                          refine qn53450 _ _ ?_
                          obtain rfl := Option.some.inj h22
                          refine EOk.done ?_
                          exact ⟨⟨_, rfl⟩, [], trivial, ⟨⟨rfl, rfl, rfl, rfl, rfl, rfl, rfl, rfl, trivial⟩, ⟨rfl, rfl, rfl, trivial⟩, rfl, rfl⟩⟩
                      rintro ⟨v21, hv_⟩
                      replace hv_ := hv_.symm
                      subst hv_
                      refine qn53448 _ _ ?_
                      obtain rfl := Option.some.inj h18
                      refine EOk.done ?_
                      exact ⟨⟨_, rfl⟩, [], trivial, ⟨⟨rfl, rfl, rfl, rfl, rfl, rfl, rfl, rfl, trivial⟩, ⟨rfl, rfl, rfl, trivial⟩, rfl, rfl⟩⟩
                  rintro ⟨v17, hv_⟩
                  replace hv_ := hv_.symm
                  subst hv_
                  refine qn53442 _ _ ?_
                  obtain rfl := Option.some.inj h14
                  refine EOk.done ?_
                  exact ⟨⟨_, rfl⟩, [], trivial, ⟨⟨rfl, rfl, rfl, rfl, rfl, rfl, rfl, rfl, trivial⟩, ⟨rfl, rfl, rfl, trivial⟩, rfl, rfl⟩⟩
              rintro ⟨v13, hv_⟩
              replace hv_ := hv_.symm
              subst hv_
              refine qn53424 _ _ ?_
              obtain rfl := Option.some.inj h10
              refine EOk.done ?_
              exact ⟨⟨_, rfl⟩, [], trivial, ⟨⟨rfl, rfl, rfl, rfl, rfl, rfl, rfl, rfl, trivial⟩, ⟨rfl, rfl, rfl, trivial⟩, rfl, rfl⟩⟩
          rintro ⟨v9, hv_⟩
          replace hv_ := hv_.symm
          subst hv_
          refine qn53370 _ _ ?_
          obtain rfl := Option.some.inj h6
          refine EOk.done ?_
          exact ⟨⟨_, rfl⟩, [], trivial, ⟨⟨rfl, rfl, rfl, rfl, rfl, rfl, rfl, rfl, trivial⟩, ⟨rfl, rfl, rfl, trivial⟩, rfl, rfl⟩⟩
      rintro ⟨v5, hv_⟩
      replace hv_ := hv_.symm
      subst hv_
      refine qn53208 _ _ ?_
      obtain rfl := Option.some.inj h2
      refine EOk.done ?_
      exact ⟨⟨_, rfl⟩, [], trivial, ⟨⟨rfl, rfl, rfl, rfl, rfl, rfl, rfl, rfl, trivial⟩, ⟨rfl, rfl, rfl, trivial⟩, rfl, rfl⟩⟩
  rintro ⟨v1, hv_⟩
  replace hv_ := hv_.symm
  subst hv_
  refine qn52722 _ _ ?_
  obtain ⟨o28, h27, h⟩ := bindM h
  refine COk.joinR (ι := { s : (Int × Int) // o28 = Ctl.next s }) (fun s => [(7, .ptr 7 0), (9, .int s.1.1), (10, .int s.1.2)]) (fun s => [(7, .box (eIns a3) 81)]) (fun Q64675 qn64675 qx64675 qr64675 => ?_) (by intro s; rw [hn]; rfl) ?_
  · refine goc hn ?_
    refine bselM h27 (fun hb29 h27 => ?_) (fun hb29 h27 => ?_)
    · refine gok hn ?_
      refine qn64675 _ _ ?_
      obtain rfl := Option.some.inj h27
      refine EOk.done ?_
      exact ⟨⟨_, rfl⟩, [], trivial, ⟨⟨rfl, rfl, rfl, trivial⟩, ⟨rfl, trivial⟩, rfl, rfl⟩⟩
    · refine COk.seqQ fun Q64676 qn64676 qx64676 qr64676 => ?_
      refine gor hn ?_
      refine qn64676 _ _ ?_
      obtain ⟨o33, h32, h27⟩ := bindM h27
      refine COk.joinR (ι := { s : (Int × Int) // o33 = Ctl.next s }) (fun s => [(7, .ptr 7 0), (9, .int s.1.1), (10, .int s.1.2)]) (fun s => [(7, .box (eIns a3) 81)]) (fun Q68417 qn68417 qx68417 qr68417 => ?_) (by intro s; rw [hn]; rfl) ?_
      · refine goc hn ?_
        refine bselM h32 (fun hb34 h32 => ?_) (fun hb34 h32 => ?_)
        · refine gor hn ?_
          refine Or.inr ?_
          refine qn68417 _ _ ?_
          obtain rfl := Option.some.inj h32
          refine EOk.done ?_
          exact ⟨⟨_, rfl⟩, [], trivial, ⟨⟨rfl, rfl, rfl, trivial⟩, ⟨rfl, trivial⟩, rfl, rfl⟩⟩
        · refine COk.seqQ fun Q68418 qn68418 qx68418 qr68418 => ?_
          refine COk.seqQ fun Q68419 qn68419 qx68419 qr68419 => ?_
          refine gor hn ?_
          refine qn68419 _ _ ?_
          obtain ⟨o37, h36, h32⟩ := bindM h32
          refine COk.joinR (ι := { s : Bool // o37 = s }) (fun s => [(1, .int a1), (4, .ptr 4 0), (6, .ptr 6 0), (7, .ptr 7 0), (9, .int (0 : Int)), (12, .int a3.op), (26, .bool s.1)]) (fun s => [(4, .box (eWd a0) 55), (6, .box (eMe a2) 74), (7, .box (eIns a3) 81)]) (fun Q68420 qn68420 qx68420 qr68420 => ?_) (by intro s; rw [hn]; rfl) ?_
          · refine goc hn ?_
            refine bselM h36 (fun hb38 h36 => ?_) (fun hb38 h36 => ?_)
            · refine gok hn ?_
              refine qn68420 _ _ ?_
              obtain rfl := Option.some.inj h36
              refine EOk.done ?_
              exact ⟨⟨_, rfl⟩, [], trivial, ⟨⟨rfl, rfl, rfl, rfl, rfl, rfl, rfl, trivial⟩, ⟨rfl, rfl, rfl, trivial⟩, rfl, rfl⟩⟩
            · refine gor hn ?_
              refine qn68420 _ _ ?_
              obtain rfl := Option.some.inj h36
              refine EOk.done ?_
              exact ⟨⟨_, rfl⟩, [], trivial, ⟨⟨rfl, rfl, rfl, rfl, rfl, rfl, rfl, trivial⟩, ⟨rfl, rfl, rfl, trivial⟩, rfl, rfl⟩⟩
          rintro ⟨v35, hv_⟩
          replace hv_ := hv_.symm
          subst hv_
          refine qn68418 _ _ ?_
          obtain ⟨o42, h41, h32⟩ := bindM h32
          refine COk.joinR (ι := { s : (Int × Int) // o42 = Ctl.next s }) (fun s => [(7, .ptr 7 0), (9, .int s.1.1), (10, .int s.1.2)]) (fun s => [(7, .box (eIns a3) 81)]) (fun Q69665 qn69665 qx69665 qr69665 => ?_) (by intro s; rw [hn]; rfl) ?_
          · refine goc hn ?_
            refine bselM h41 (fun hb43 h41 => ?_) (fun hb43 h41 => ?_)
            · refine gor hn ?_
              refine Or.inr ?_
              refine qn69665 _ _ ?_
              obtain rfl := Option.some.inj h41
              refine EOk.done ?_
              exact ⟨⟨_, rfl⟩, [], trivial, ⟨⟨rfl, rfl, rfl, trivial⟩, ⟨rfl, trivial⟩, rfl, rfl⟩⟩
            · refine COk.seqQ fun Q69666 qn69666 qx69666 qr69666 => ?_
              refine COk.seqQ fun Q69667 qn69667 qx69667 qr69667 => ?_
              refine gor hn ?_
              refine qn69667 _ _ ?_
              obtain ⟨o46, h45, h41⟩ := bindM h41
              refine COk.joinR (ι := { s : Bool // o46 = s }) (fun s => [(1, .int a1), (4, .ptr 4 0), (6, .ptr 6 0), (7, .ptr 7 0), (9, .int (0 : Int)), (12, .int a3.op), (32, .bool s.1)]) (fun s => [(4, .box (eWd a0) 55), (6, .box (eMe a2) 74), (7, .box (eIns a3) 81)]) (fun Q69668 qn69668 qx69668 qr69668 => ?_) (by intro s; rw [hn]; rfl) ?_
              · refine goc hn ?_
                refine bselM h45 (fun hb47 h45 => ?_) (fun hb47 h45 => ?_)
                · refine gok hn ?_
                  refine qn69668 _ _ ?_
                  obtain rfl := Option.some.inj h45
                  refine EOk.done ?_
                  exact ⟨⟨_, rfl⟩, [], trivial, ⟨⟨rfl, rfl, rfl, rfl, rfl, rfl, rfl, trivial⟩, ⟨rfl, rfl, rfl, trivial⟩, rfl, rfl⟩⟩
                · refine gor hn ?_
                  refine qn69668 _ _ ?_
                  obtain rfl := Option.some.inj h45
                  refine EOk.done ?_
                  exact ⟨⟨_, rfl⟩, [], trivial, ⟨⟨rfl, rfl, rfl, rfl, rfl, rfl, rfl, trivial⟩, ⟨rfl, rfl, rfl, trivial⟩, rfl, rfl⟩⟩
              rintro ⟨v44, hv_⟩
              replace hv_ := hv_.symm
              subst hv_
              refine qn69666 _ _ ?_
              obtain ⟨o51, h50, h41⟩ := bindM h41
              refine COk.joinR (ι := { s : (Int × Int) // o51 = Ctl.next s }) (fun s => [(7, .ptr 7 0), (9, .int s.1.1), (10, .int s.1.2)]) (fun s => [(7, .box (eIns a3) 81)]) (fun Q70081 qn70081 qx70081 qr70081 => ?_) (by intro s; rw [hn]; rfl) ?_
              · refine goc hn ?_
                refine bselM h50 (fun hb52 h50 => ?_) (fun hb52 h50 => ?_)
                · refine gor hn ?_
                  obtain ⟨r53, hr54, h50⟩ := bindM h50
                  show CallOk Try.prog _ _ _ _
                  refine CallOk.as (qcref1_Slots_ok N a0 a1 r53 hr54) (by repeat (first | exact trivial | exact rfl | (refine And.intro ?_ ?_))) trivial rfl ?_
                  refine Or.inr ?_
                  refine qn70081 _ _ ?_
                  obtain rfl := Option.some.inj h50
                  refine EOk.done ?_
                  exact ⟨⟨_, rfl⟩, [], trivial, ⟨⟨rfl, rfl, rfl, trivial⟩, ⟨rfl, trivial⟩, rfl, rfl⟩⟩
                · refine COk.seqQ fun Q70082 qn70082 qx70082 qr70082 => ?_
                  refine gor hn ?_
                  refine qn70082 _ _ ?_
                  obtain ⟨o58, h57, h50⟩ := bindM h50
                  refine COk.joinR (ι := { s : (Int × Int) // o58 = Ctl.next s }) (fun s => [(7, .ptr 7 0), (9, .int s.1.1), (10, .int s.1.2)]) (fun s => [(7, .box (eIns a3) 81)]) (fun Q70219 qn70219 qx70219 qr70219 => ?_) (by intro s; rw [hn]; rfl) ?_
                  · refine goc hn ?_
                    refine bselM h57 (fun hb59 h57 => ?_) (fun hb59 h57 => ?_)
                    · refine gor hn ?_
                      refine qn70219 _ _ ?_
                      obtain rfl := Option.some.inj h57
                      refine EOk.done ?_
                      exact ⟨⟨_, rfl⟩, [], trivial, ⟨⟨rfl, rfl, rfl, trivial⟩, ⟨rfl, trivial⟩, rfl, rfl⟩⟩
                    · refine COk.seqQ fun Q70220 qn70220 qx70220 qr70220 => ?_
                      refine gor hn ?_
                      refine qn70220 _ _ ?_
                      obtain ⟨o62, h61, h57⟩ := bindM h57
                      refine COk.joinR (ι := { s : Int // o62 = Ctl.next s }) (fun s => [(7, .ptr 7 0), (9, .int (0 : Int)), (10, .int s.1)]) (fun s => [(7, .box (eIns a3) 81)]) (fun Q70265 qn70265 qx70265 qr70265 => ?_) (by intro s; rw [hn]; rfl) ?_
                      · refine goc hn ?_
                        refine bselM h61 (fun hb63 h61 => ?_) (fun hb63 h61 => ?_)
                        · refine COk.seqQ fun Q70266 qn70266 qx70266 qr70266 => ?_
                          refine gor hn ?_
                          refine lenM (fun hl64 => ?_)
                          refine Or.inr ?_
                          refine qn70266 _ _ ?_
                          refine COk.seqQ fun Q70267 qn70267 qx70267 qr70267 => ?_
                          obtain ⟨o67, h66, h61⟩ := bindM h61
                          refine COk.joinR (ι := { s : Bool // o67 = s }) (fun s => [(7, .ptr 7 0), (9, .int (0 : Int)), (10, .int (wr ((a0.classes.length : Int) - (1 : Int)))), (54, .bool s.1)]) (fun s => [(7, .box (eIns a3) 81)]) (fun Q70268 qn70268 qx70268 qr70268 => ?_) (by intro s; rw [hn]; rfl) ?_
                          · refine gor hn ?_
                            refine bselM h66 (fun hb68 h66 => ?_) (fun hb68 h66 => ?_)
                            · refine bselT hb68 ?_
                              refine bselT hb68 ?_
                              refine bselT hb68 ?_
                              refine qn70268 _ _ ?_
                              obtain rfl := Option.some.inj h66
                              refine EOk.done ?_
                              exact ⟨⟨_, rfl⟩, [], trivial, ⟨⟨rfl, rfl, rfl, rfl, trivial⟩, ⟨rfl, trivial⟩, rfl, rfl⟩⟩
                            · refine bselF hb68 ?_
                              refine bselF hb68 ?_
                              refine bselF hb68 ?_
                              refine qn70268 _ _ ?_
                              obtain rfl := Option.some.inj h66
                              refine EOk.done ?_
                              exact ⟨⟨_, rfl⟩, [], trivial, ⟨⟨rfl, rfl, rfl, rfl, trivial⟩, ⟨rfl, trivial⟩, rfl, rfl⟩⟩
                          rintro ⟨v65, hv_⟩
                          replace hv_ := hv_.symm
                          subst hv_
                          refine qn70267 _ _ ?_
                          refine goc hn ?_
                          refine bselM h61 (fun hb69 h61 => ?_) (fun hb69 h61 => ?_)
                          · refine COk.seqQ fun Q70270 qn70270 qx70270 qr70270 => ?_
                            refine gor hn ?_
                            refine qn70270 _ _ ?_
                            refine got hn ?_
                            refine qr70265 _ _ ?_
                            refine qr70219 _ _ ?_
                            refine qr70081 _ _ ?_
                            refine qr69665 _ _ ?_
                            refine qr68417 _ _ ?_
                            refine qr64675 _ _ ?_
                            refine qr52721 _ _ ?_
                            refine qr35152 _ _ ?_
                            obtain rfl := Option.some.inj h61
                            obtain rfl := Option.some.inj h57
                            obtain rfl := Option.some.inj h50
                            obtain rfl := Option.some.inj h41
                            obtain rfl := Option.some.inj h32
                            obtain rfl := Option.some.inj h27
                            obtain rfl := Option.some.inj h
                            exact ⟨[], _, rfl, (by repeat (first | exact trivial | exact rfl | (refine And.intro ?_ ?_))), trivial, rfl, rfl, rfl, rfl, rfl⟩
                          · refine gok hn ?_
                            refine qn70265 _ _ ?_
                            obtain rfl := Option.some.inj h61
                            refine EOk.done ?_
                            exact ⟨⟨_, rfl⟩, [], trivial, ⟨⟨rfl, rfl, rfl, trivial⟩, ⟨rfl, trivial⟩, rfl, rfl⟩⟩
                        · refine COk.seqQ fun Q70271 qn70271 qx70271 qr70271 => ?_
                          refine gor hn ?_
                          refine qn70271 _ _ ?_
                          obtain ⟨o72, h71, h61⟩ := bindM h61
                          refine COk.joinR (ι := { s : Int // o72 = Ctl.next s }) (fun s => [(7, .ptr 7 0), (9, .int (0 : Int)), (10, .int s.1)]) (fun s => [(7, .box (eIns a3) 81)]) (fun Q70282 qn70282 qx70282 qr70282 => ?_) (by intro s; rw [hn]; rfl) ?_
                          · refine goc hn ?_
                            refine bselM h71 (fun hb73 h71 => ?_) (fun hb73 h71 => ?_)
                            · refine gor hn ?_
                              refine qn70282 _ _ ?_
                              obtain rfl := Option.some.inj h71
                              refine EOk.done ?_
                              exact ⟨⟨_, rfl⟩, [], trivial, ⟨⟨rfl, rfl, rfl, trivial⟩, ⟨rfl, trivial⟩, rfl, rfl⟩⟩
                            · refine COk.seqQ fun Q70283 qn70283 qx70283 qr70283 => ?_
                              refine COk.seqQ fun Q70284 qn70284 qx70284 qr70284 => ?_
                              refine gor hn ?_
                              refine qn70284 _ _ ?_
                              obtain ⟨o76, h75, h71⟩ := bindM h71
                              refine COk.joinR (ι := { s : Bool // o76 = s }) (fun s => [(6, .ptr 6 0), (7, .ptr 7 0), (9, .int (0 : Int)), (57, .bool s.1)]) (fun s => [(6, .box (eMe a2) 74), (7, .box (eIns a3) 81)]) (fun Q70285 qn70285 qx70285 qr70285 => ?_) (by intro s; rw [hn]; rfl) ?_
                              · refine goc hn ?_
                                refine bselM h75 (fun hb77 h75 => ?_) (fun hb77 h75 => ?_)
                                · refine gok hn ?_
                                  refine qn70285 _ _ ?_
                                  obtain rfl := Option.some.inj h75
                                  refine EOk.done ?_
                                  exact ⟨⟨_, rfl⟩, [], trivial, ⟨⟨rfl, rfl, rfl, rfl, trivial⟩, ⟨rfl, rfl, trivial⟩, rfl, rfl⟩⟩
                                · refine gor hn ?_
                                  refine qn70285 _ _ ?_
                                  obtain rfl := Option.some.inj h75
                                  refine EOk.done ?_
                                  exact ⟨⟨_, rfl⟩, [], trivial, ⟨⟨rfl, rfl, rfl, rfl, trivial⟩, ⟨rfl, rfl, trivial⟩, rfl, rfl⟩⟩
                              rintro ⟨v74, hv_⟩
                              replace hv_ := hv_.symm
                              subst hv_
                              refine qn70283 _ _ ?_
                              refine goc hn ?_
                              refine bselM h71 (fun hb78 h71 => ?_) (fun hb78 h71 => ?_)
                              · refine gor hn ?_
                                refine lenM (fun hl79 => ?_)
                                refine Or.inr ?_
                                refine qn70282 _ _ ?_
                                obtain rfl := Option.some.inj h71
                                refine EOk.done ?_
                                exact ⟨⟨_, rfl⟩, [], trivial, ⟨⟨rfl, rfl, rfl, trivial⟩, ⟨rfl, trivial⟩, rfl, rfl⟩⟩
                              · refine COk.seqQ fun Q70287 qn70287 qx70287 qr70287 => ?_
                                refine gor hn ?_
                                refine qn70287 _ _ ?_
                                refine got hn ?_
                                refine qr70282 _ _ ?_
                                refine qr70265 _ _ ?_
                                refine qr70219 _ _ ?_
                                refine qr70081 _ _ ?_
                                refine qr69665 _ _ ?_
                                refine qr68417 _ _ ?_
                                refine qr64675 _ _ ?_
                                refine qr52721 _ _ ?_
                                refine qr35152 _ _ ?_
                                obtain rfl := Option.some.inj h71
                                obtain rfl := Option.some.inj h61
                                obtain rfl := Option.some.inj h57
                                obtain rfl := Option.some.inj h50
                                obtain rfl := Option.some.inj h41
                                obtain rfl := Option.some.inj h32
                                obtain rfl := Option.some.inj h27
                                obtain rfl := Option.some.inj h
                                exact ⟨[], _, rfl, (by repeat (first | exact trivial | exact rfl | (refine And.intro ?_ ?_))), trivial, rfl, rfl, rfl, rfl, rfl⟩
                          rintro ⟨v70, rfl⟩
                          refine qn70265 _ _ ?_
                          obtain rfl := Option.some.inj h61
                          refine EOk.done ?_
                          exact ⟨⟨_, rfl⟩, [], trivial, ⟨⟨rfl, rfl, rfl, trivial⟩, ⟨rfl, trivial⟩, rfl, rfl⟩⟩
                      rintro ⟨v60, rfl⟩
                      refine qn70219 _ _ ?_
                      obtain rfl := Option.some.inj h57
                      refine EOk.done ?_
                      exact ⟨⟨_, rfl⟩, [], trivial, ⟨⟨rfl, rfl, rfl, trivial⟩, ⟨rfl, trivial⟩, rfl, rfl⟩⟩
                  rintro ⟨⟨v55, v56⟩, rfl⟩
                  refine qn70081 _ _ ?_
                  obtain rfl := Option.some.inj h50
                  refine EOk.done ?_
                  exact ⟨⟨_, rfl⟩, [], trivial, ⟨⟨rfl, rfl, rfl, trivial⟩, ⟨rfl, trivial⟩, rfl, rfl⟩⟩
              rintro ⟨⟨v48, v49⟩, rfl⟩
              refine qn69665 _ _ ?_
              obtain rfl := Option.some.inj h41
              refine EOk.done ?_
              exact ⟨⟨_, rfl⟩, [], trivial, ⟨⟨rfl, rfl, rfl, trivial⟩, ⟨rfl, trivial⟩, rfl, rfl⟩⟩
          rintro ⟨⟨v39, v40⟩, rfl⟩
          refine qn68417 _ _ ?_
          obtain rfl := Option.some.inj h32
          refine EOk.done ?_
          exact ⟨⟨_, rfl⟩, [], trivial, ⟨⟨rfl, rfl, rfl, trivial⟩, ⟨rfl, trivial⟩, rfl, rfl⟩⟩
      rintro ⟨⟨v30, v31⟩, rfl⟩
      refine qn64675 _ _ ?_
      obtain rfl := Option.some.inj h27
      refine EOk.done ?_
      exact ⟨⟨_, rfl⟩, [], trivial, ⟨⟨rfl, rfl, rfl, trivial⟩, ⟨rfl, trivial⟩, rfl, rfl⟩⟩
  rintro ⟨⟨v25, v26⟩, rfl⟩
  refine qn52721 _ _ ?_
  refine qn35152 _ _ ?_
  refine COk.seqQ fun Q70288 qn70288 qx70288 qr70288 => ?_
  refine COk.seqQ fun Q70289 qn70289 qx70289 qr70289 => ?_
  obtain ⟨o82, h81, h⟩ := bindM h
  refine COk.joinR (ι := { s : Bool // o82 = s }) (fun s => [(7, .ptr 7 0), (73, .bool s.1)]) (fun s => [(7, .box (eIns a3) 81)]) (fun Q70290 qn70290 qx70290 qr70290 => ?_) (by intro s; rw [hn]; rfl) ?_
  · refine gor hn ?_
    refine bselM h81 (fun hb83 h81 => ?_) (fun hb83 h81 => ?_)
    · refine bselT hb83 ?_
      refine bselT hb83 ?_
      refine bselT hb83 ?_
      refine bselT hb83 ?_
      refine qn70290 _ _ ?_
      obtain rfl := Option.some.inj h81
      refine EOk.done ?_
      exact ⟨⟨_, rfl⟩, [], trivial, ⟨⟨rfl, rfl, trivial⟩, ⟨rfl, trivial⟩, rfl, rfl⟩⟩
    · refine bselF hb83 ?_
      refine bselF hb83 ?_
      refine bselF hb83 ?_
      refine bselF hb83 ?_
      refine qn70290 _ _ ?_
      obtain rfl := Option.some.inj h81
      refine EOk.done ?_
      exact ⟨⟨_, rfl⟩, [], trivial, ⟨⟨rfl, rfl, trivial⟩, ⟨rfl, trivial⟩, rfl, rfl⟩⟩
  rintro ⟨v80, hv_⟩
  replace hv_ := hv_.symm
  subst hv_
  refine qn70289 _ _ ?_
  refine goc hn ?_
  refine bselM h (fun hb84 h => ?_) (fun hb84 h => ?_)
  · refine COk.seqQ fun Q70292 qn70292 qx70292 qr70292 => ?_
    refine gor hn ?_
    refine qn70292 _ _ ?_
    refine got hn ?_
    refine qr70288 _ _ ?_
    obtain rfl := Option.some.inj h
    exact ⟨[], _, rfl, (by repeat (first | exact trivial | exact rfl | (refine And.intro ?_ ?_))), trivial, rfl, rfl, rfl, rfl, rfl⟩
  · refine gok hn ?_
    refine qn70288 _ _ ?_
    refine COk.seqQ fun Q70293 qn70293 qx70293 qr70293 => ?_
    refine COk.seqQ fun Q70294 qn70294 qx70294 qr70294 => ?_
    obtain ⟨o87, h86, h⟩ := bindM h
    refine COk.joinR (ι := { s : Bool // o87 = s }) (fun s => [(102, .bool s.1)]) (fun s => []) (fun Q70295 qn70295 qx70295 qr70295 => ?_) (by intro s; rw [hn]; rfl) ?_
    · refine gor hn ?_
      refine bselM h86 (fun hb88 h86 => ?_) (fun hb88 h86 => ?_)
      · refine bselT hb88 ?_
        refine bselT hb88 ?_
        obtain ⟨r89, hr90, h86⟩ := bindM h86
        show CallOk Try.prog _ _ _ _
        refine CallOk.as (qcref1_Name_ok N a3.name r89 hr90) (by repeat (first | exact trivial | exact rfl | (refine And.intro ?_ ?_))) trivial rfl ?_
        refine bselT hb88 ?_
        refine bselT hb88 ?_
        refine bselM h86 (fun hb91 h86 => ?_) (fun hb91 h86 => ?_)
        · refine bselT hb91 ?_
          refine bselT hb91 ?_
          refine bselT hb91 ?_
          refine bselT hb91 ?_
          refine bselT hb91 ?_
          refine qn70295 _ _ ?_
          obtain rfl := Option.some.inj h86
          refine EOk.done ?_
          exact ⟨⟨_, rfl⟩, [], trivial, ⟨⟨rfl, trivial⟩, trivial, rfl, rfl⟩⟩
        · refine bselF hb91 ?_
          refine bselF hb91 ?_
          refine bselF hb91 ?_
          refine bselM h86 (fun hb92 h86 => ?_) (fun hb92 h86 => ?_)
          · refine bselT hb92 ?_
            refine bselT hb92 ?_
            refine bselF hb91 ?_
            refine bselT hb92 ?_
            refine bselF hb91 ?_
            refine bselM h86 (fun hb93 h86 => ?_) (fun hb93 h86 => ?_)
            · refine bselT hb93 ?_
              refine bselT hb93 ?_
              refine bselT hb93 ?_
              refine qn70295 _ _ ?_
              obtain rfl := Option.some.inj h86
              refine EOk.done ?_
              exact ⟨⟨_, rfl⟩, [], trivial, ⟨⟨rfl, trivial⟩, trivial, rfl, rfl⟩⟩
            · refine bselF hb93 ?_
              refine bselF hb93 ?_
              refine bselF hb93 ?_
              refine bselM h86 (fun hb94 h86 => ?_) (fun hb94 h86 => ?_)
              · refine bselT hb94 ?_
                refine bselT hb94 ?_
                refine bselT hb94 ?_
                refine qn70295 _ _ ?_
                obtain rfl := Option.some.inj h86
                refine EOk.done ?_
                exact ⟨⟨_, rfl⟩, [], trivial, ⟨⟨rfl, trivial⟩, trivial, rfl, rfl⟩⟩
              · refine bselF hb94 ?_
                refine bselF hb94 ?_
                refine bselF hb94 ?_
                refine qn70295 _ _ ?_
                obtain rfl := Option.some.inj h86
                refine EOk.done ?_
                exact ⟨⟨_, rfl⟩, [], trivial, ⟨⟨rfl, trivial⟩, trivial, rfl, rfl⟩⟩
          · refine bselF hb92 ?_
            refine bselF hb92 ?_
            refine bselF hb91 ?_
            refine bselF hb92 ?_
            refine bselF hb91 ?_
            refine bselM h86 (fun hb95 h86 => ?_) (fun hb95 h86 => ?_)
            · refine bselT hb95 ?_
              refine bselT hb95 ?_
              refine bselT hb95 ?_
              refine qn70295 _ _ ?_
              obtain rfl := Option.some.inj h86
              refine EOk.done ?_
              exact ⟨⟨_, rfl⟩, [], trivial, ⟨⟨rfl, trivial⟩, trivial, rfl, rfl⟩⟩
            · refine bselF hb95 ?_
              refine bselF hb95 ?_
              refine bselF hb95 ?_
              refine qn70295 _ _ ?_
              obtain rfl := Option.some.inj h86
              refine EOk.done ?_
              exact ⟨⟨_, rfl⟩, [], trivial, ⟨⟨rfl, trivial⟩, trivial, rfl, rfl⟩⟩
      · refine bselF hb88 ?_
        refine bselF hb88 ?_
        refine bselF hb88 ?_
        refine bselF hb88 ?_
        refine bselM h86 (fun hb96 h86 => ?_) (fun hb96 h86 => ?_)
        · refine bselT hb96 ?_
          refine bselT hb96 ?_
          refine bselT hb96 ?_
          refine bselM h86 (fun hb97 h86 => ?_) (fun hb97 h86 => ?_)
          · refine bselT hb97 ?_
            refine bselT hb97 ?_
            refine bselT hb97 ?_
            refine qn70295 _ _ ?_
            obtain rfl := Option.some.inj h86
            refine EOk.done ?_
            exact ⟨⟨_, rfl⟩, [], trivial, ⟨⟨rfl, trivial⟩, trivial, rfl, rfl⟩⟩
          · refine bselF hb97 ?_
            refine bselF hb97 ?_
            refine bselF hb97 ?_
            refine bselM h86 (fun hb98 h86 => ?_) (fun hb98 h86 => ?_)
            · refine bselT hb98 ?_
              refine bselT hb98 ?_
              refine bselT hb98 ?_
              refine qn70295 _ _ ?_
              obtain rfl := Option.some.inj h86
              refine EOk.done ?_
              exact ⟨⟨_, rfl⟩, [], trivial, ⟨⟨rfl, trivial⟩, trivial, rfl, rfl⟩⟩
            · refine bselF hb98 ?_
              refine bselF hb98 ?_
              refine bselF hb98 ?_
              refine qn70295 _ _ ?_
              obtain rfl := Option.some.inj h86
              refine EOk.done ?_
              exact ⟨⟨_, rfl⟩, [], trivial, ⟨⟨rfl, trivial⟩, trivial, rfl, rfl⟩⟩
        · refine bselF hb96 ?_
          refine bselF hb96 ?_
          refine bselF hb96 ?_
          refine bselM h86 (fun hb99 h86 => ?_) (fun hb99 h86 => ?_)
          · refine bselT hb99 ?_
            refine bselT hb99 ?_
            refine bselT hb99 ?_
            refine qn70295 _ _ ?_
            obtain rfl := Option.some.inj h86
            refine EOk.done ?_
            exact ⟨⟨_, rfl⟩, [], trivial, ⟨⟨rfl, trivial⟩, trivial, rfl, rfl⟩⟩
          · refine bselF hb99 ?_
            refine bselF hb99 ?_
            refine bselF hb99 ?_
            refine qn70295 _ _ ?_
            obtain rfl := Option.some.inj h86
            refine EOk.done ?_
            exact ⟨⟨_, rfl⟩, [], trivial, ⟨⟨rfl, trivial⟩, trivial, rfl, rfl⟩⟩
    rintro ⟨v85, hv_⟩
    replace hv_ := hv_.symm
    subst hv_
    refine qn70294 _ _ ?_
    refine goc hn ?_
    refine bselM h (fun hb100 h => ?_) (fun hb100 h => ?_)
    · refine COk.seqQ fun Q70297 qn70297 qx70297 qr70297 => ?_
      refine gor hn ?_
      refine qn70297 _ _ ?_
      refine got hn ?_
      refine qr70293 _ _ ?_
      obtain rfl := Option.some.inj h
      exact ⟨[], _, rfl, (by repeat (first | exact trivial | exact rfl | (refine And.intro ?_ ?_))), trivial, rfl, rfl, rfl, rfl, rfl⟩
    · refine gok hn ?_
      refine qn70293 _ _ ?_
      refine COk.seqQ fun Q70298 qn70298 qx70298 qr70298 => ?_
      refine gor hn ?_
      refine qn70298 _ _ ?_
      refine got hn ?_
      obtain rfl := Option.some.inj h
      exact ⟨[], _, rfl, (by repeat (first | exact trivial | exact rfl | (refine And.intro ?_ ?_))), trivial, rfl, rfl, rfl, rfl, rfl⟩
end Go.Proofs.Ytioalgofaiideaa
