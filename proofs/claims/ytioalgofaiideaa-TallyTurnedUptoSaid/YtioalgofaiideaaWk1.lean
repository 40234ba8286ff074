/- Walks after the mirrors. Printed by mir.py. -/
import Derived.Test.YtioalgofaiideaaMir
import Derived.Test.YtioalgofaiideaaYnew
namespace Go.Proofs.Ytioalgofaiideaa
open Go.RowKit
set_option linter.unusedVariables false
/- tally.Most -/
set_option maxRecDepth 100000 in
set_option maxHeartbeats 1000000 in
theorem tally_Most_ok (N : Nat) (a0 : (List Tl)) (a1 : St) (r : (Int × Int)) (h : tally_Most N a0 a1 = some r) : Spec Try.prog 15 [] [.sl 4 (List.map eTl a0), .agg (eSt a1)] (.tup [.int r.1, .int r.2]) [] [] := by
  refine Spec.of tabOk Try.func15 rfl Try.ntmps15 (by kernel_rfl) rfl rfl rfl fun Γ hn => ?_
  unfold tally_Most at h
  refine COk.seqQ fun Q771 qn771 qx771 qr771 => ?_
  refine gor hn ?_
  refine qn771 _ _ ?_
  refine COk.seqQ fun Q772 qn772 qx772 qr772 => ?_
  refine gor hn ?_
  refine qn772 _ _ ?_
  refine COk.seqQ fun Q773 qn773 qx773 qr773 => ?_
  refine COk.seqQ fun Q774 qn774 qx774 qr774 => ?_
  refine gor hn ?_
  refine lenM (fun hl1 => ?_)
  refine qn774 _ _ ?_
  obtain ⟨o9, h10, h⟩ := bindM h
  refine COk.joinR (ι := { s : (Int × Int) // o9 = s }) (fun s => [(6, .int s.1.1), (7, .int s.1.2)]) (fun s => []) (fun Q1345 qn1345 qx1345 qr1345 => ?_) (by intro s; rw [hn]; rfl) ?_
  · refine COk.blkQ fun Q1346 qn1346 qe1346 qx1346 qr1346 => ?_
    refine COk.loopQ (ι := { q : ((List Tl) × Nat × Int × Int) // q.1 = a0.drop q.2.1 ∧ tally_Most_l1 N a1 q.1 q.2.1 q.2.2.1 q.2.2.2 = some o9 }) (fun q => [(3, .ptr 3 0), (6, .int q.1.2.2.1), (7, .int q.1.2.2.2), (12, .sl 4 (List.map eTl a0)), (13, .int (a0.length : Int)), (14, .int (q.1.2.1 : Int))]) (fun q => [(3, .box (eSt a1) 24)]) (fun q => q.1.1.length) ⟨(a0, 0, (-1 : Int), (0 : Int)), rfl, h10⟩ [] ⟨⟨rfl, rfl, rfl, (by repeat (first | exact trivial | exact rfl | (refine And.intro ?_ ?_))), rfl, rfl, trivial⟩, ⟨rfl, trivial⟩, rfl, rfl⟩ (by intro q; rw [hn]; rfl) ?_
    rintro ⟨⟨rest_, k2, v3, v4⟩, hd12, h10⟩ Q1347 qn1347 qx1347 qr1347
    replace hd12 : rest_ = a0.drop k2 := hd12
    rcases rest_ with _ | ⟨x14, rest11⟩
    · have hlt16 := restNil hd12
      replace h10 := (tally_Most_l1.eq_1 _ _ _ _ _).symm.trans h10
      refine COk.seqQ fun Q1348 qn1348 qx1348 qr1348 => ?_
      refine gor hn ?_
      refine qn1348 _ _ ?_
      refine COk.seqQ fun Q1349 qn1349 qx1349 qr1349 => ?_
      refine goc hn ?_
      refine bselF hlt16 ?_
      refine goe hn ?_
      refine qx1349 _ _ _ ?_
      refine qx1347 _ _ _ ?_
      refine qe1346 _ _ ?_
      refine qn1345 _ _ ?_
      obtain rfl := Option.some.inj h10
      refine EOk.done ?_
      exact ⟨⟨_, rfl⟩, [], trivial, ⟨⟨rfl, rfl, trivial⟩, trivial, rfl, rfl⟩⟩
    · obtain ⟨hx15, hd2, hlt16⟩ := restCons hd12
      replace h10 := (tally_Most_l1.eq_2 _ _ _ _ _ _ _).symm.trans h10
      refine COk.seqQ fun Q1350 qn1350 qx1350 qr1350 => ?_
      refine gor hn ?_
      refine qn1350 _ _ ?_
      refine COk.seqQ fun Q1351 qn1351 qx1351 qr1351 => ?_
      refine goc hn ?_
      refine bselT hlt16 ?_
      refine gok hn ?_
      refine qn1351 _ _ ?_
      refine COk.seqQ fun Q1352 qn1352 qx1352 qr1352 => ?_
      obtain ⟨o20, h19, h10⟩ := bindM h10
      refine COk.joinR (ι := { s : (Int × Int) // o20 = s }) (fun s => [(3, .ptr 3 0), (6, .int s.1.1), (7, .int s.1.2), (12, .sl 4 (List.map eTl a0)), (13, .int (a0.length : Int)), (14, .int (k2 : Int))]) (fun s => [(3, .box (eSt a1) 24)]) (fun Q1477 qn1477 qx1477 qr1477 => ?_) (by intro s; rw [hn]; rfl) ?_
      · refine COk.blkQ fun Q1478 qn1478 qe1478 qx1478 qr1478 => ?_
        refine COk.seqQ fun Q1479 qn1479 qx1479 qr1479 => ?_
        refine gor hn ?_
        refine idxK hx15 ?_
        refine qn1479 _ _ ?_
        refine COk.seqQ fun Q1480 qn1480 qx1480 qr1480 => ?_
        refine COk.seqQ fun Q1481 qn1481 qx1481 qr1481 => ?_
        refine gor hn ?_
        refine qn1481 _ _ ?_
        refine goc hn ?_
        refine bselM h19 (fun hb21 h19 => ?_) (fun hb21 h19 => ?_)
        · refine goe hn ?_
          refine qx1480 _ _ _ ?_
          refine qe1478 _ _ ?_
          refine qn1477 _ _ ?_
          obtain rfl := Option.some.inj h19
          refine EOk.done ?_
          exact ⟨⟨_, rfl⟩, [], trivial, ⟨⟨rfl, rfl, rfl, (by repeat (first | exact trivial | exact rfl | (refine And.intro ?_ ?_))), rfl, rfl, trivial⟩, ⟨rfl, trivial⟩, rfl, rfl⟩⟩
        · refine gok hn ?_
          refine qn1480 _ _ ?_
          refine COk.seqQ fun Q1482 qn1482 qx1482 qr1482 => ?_
          refine gor hn ?_
          refine lenM (fun hl22 => ?_)
          refine qn1482 _ _ ?_
          obtain ⟨o30, h31, h19⟩ := bindM h19
          refine COk.joinR (ι := { s : (Int × Int) // o30 = s }) (fun s => [(3, .ptr 3 0), (6, .int s.1.1), (7, .int s.1.2), (12, .sl 4 (List.map eTl a0)), (13, .int (a0.length : Int)), (14, .int (k2 : Int))]) (fun s => [(3, .box (eSt a1) 24)]) (fun Q1522 qn1522 qx1522 qr1522 => ?_) (by intro s; rw [hn]; rfl) ?_
          · refine COk.blkQ fun Q1523 qn1523 qe1523 qx1523 qr1523 => ?_
            refine COk.loopQ (ι := { q : ((List Ln) × Nat × Int × Int) // q.1 = x14.classes.drop q.2.1 ∧ tally_Most_l2 N q.1 q.2.1 q.2.2.1 q.2.2.2 = some o30 }) (fun q => [(3, .ptr 3 0), (6, .int q.1.2.2.1), (7, .int q.1.2.2.2), (12, .sl 4 (List.map eTl a0)), (13, .int (a0.length : Int)), (14, .int (k2 : Int)), (23, .sl 2 (List.map eLn x14.classes)), (24, .int (x14.classes.length : Int)), (25, .int (q.1.2.1 : Int))]) (fun q => [(3, .box (eSt a1) 24)]) (fun q => q.1.1.length) ⟨(x14.classes, 0, v3, v4), rfl, h31⟩ [] ⟨⟨rfl, rfl, rfl, (by repeat (first | exact trivial | exact rfl | (refine And.intro ?_ ?_))), rfl, rfl, (by repeat (first | exact trivial | exact rfl | (refine And.intro ?_ ?_))), rfl, rfl, trivial⟩, ⟨rfl, trivial⟩, rfl, rfl⟩ (by intro q; rw [hn]; rfl) ?_
            rintro ⟨⟨rest_, k23, v24, v25⟩, hd33, h31⟩ Q1524 qn1524 qx1524 qr1524
            replace hd33 : rest_ = x14.classes.drop k23 := hd33
            rcases rest_ with _ | ⟨x35, rest32⟩
            · have hlt37 := restNil hd33
              replace h31 := (tally_Most_l2.eq_1 _ _ _ _).symm.trans h31
              refine COk.seqQ fun Q1525 qn1525 qx1525 qr1525 => ?_
              refine gor hn ?_
              refine qn1525 _ _ ?_
              refine COk.seqQ fun Q1526 qn1526 qx1526 qr1526 => ?_
              refine goc hn ?_
              refine bselF hlt37 ?_
              refine goe hn ?_
              refine qx1526 _ _ _ ?_
              refine qx1524 _ _ _ ?_
              refine qe1523 _ _ ?_
              refine qn1522 _ _ ?_
              obtain rfl := Option.some.inj h31
              refine EOk.done ?_
              exact ⟨⟨_, rfl⟩, [], trivial, ⟨⟨rfl, rfl, rfl, (by repeat (first | exact trivial | exact rfl | (refine And.intro ?_ ?_))), rfl, rfl, trivial⟩, ⟨rfl, trivial⟩, rfl, rfl⟩⟩
            · obtain ⟨hx36, hd2, hlt37⟩ := restCons hd33
              replace h31 := (tally_Most_l2.eq_2 _ _ _ _ _ _).symm.trans h31
              refine COk.seqQ fun Q1527 qn1527 qx1527 qr1527 => ?_
              refine gor hn ?_
              refine qn1527 _ _ ?_
              refine COk.seqQ fun Q1528 qn1528 qx1528 qr1528 => ?_
              refine goc hn ?_
              refine bselT hlt37 ?_
              refine gok hn ?_
              refine qn1528 _ _ ?_
              refine COk.seqQ fun Q1529 qn1529 qx1529 qr1529 => ?_
              refine COk.blkQ fun Q1535 qn1535 qe1535 qx1535 qr1535 => ?_
              refine COk.seqQ fun Q1536 qn1536 qx1536 qr1536 => ?_
              refine gor hn ?_
              refine idxK hx36 ?_
              refine qn1536 _ _ ?_
              refine COk.seqQ fun Q1537 qn1537 qx1537 qr1537 => ?_
              obtain ⟨o40, h39, h31⟩ := bindM h31
              refine COk.joinR (ι := { s : Bool // o40 = s }) (fun s => [(3, .ptr 3 0), (6, .int v24), (7, .int v25), (11, .ptr 11 0), (12, .sl 4 (List.map eTl a0)), (13, .int (a0.length : Int)), (14, .int (k2 : Int)), (23, .sl 2 (List.map eLn x14.classes)), (24, .int (x14.classes.length : Int)), (25, .int (k23 : Int)), (48, .bool s.1)]) (fun s => [(3, .box (eSt a1) 24), (11, .box (eLn x35) 29)]) (fun Q1538 qn1538 qx1538 qr1538 => ?_) (by intro s; rw [hn]; rfl) ?_
              · refine gor hn ?_
                refine bselM h39 (fun hb41 h39 => ?_) (fun hb41 h39 => ?_)
                · refine bselT hb41 ?_
                  refine bselT hb41 ?_
                  refine bselT hb41 ?_
                  refine bselT hb41 ?_
                  refine bselT hb41 ?_
                  refine bselT hb41 ?_
                  refine bselT hb41 ?_
                  refine bselT hb41 ?_
                  refine qn1538 _ _ ?_
                  obtain rfl := Option.some.inj h39
                  refine EOk.done ?_
                  exact ⟨⟨_, rfl⟩, [], trivial, ⟨⟨rfl, rfl, rfl, rfl, (by repeat (first | exact trivial | exact rfl | (refine And.intro ?_ ?_))), rfl, rfl, (by repeat (first | exact trivial | exact rfl | (refine And.intro ?_ ?_))), rfl, rfl, rfl, trivial⟩, ⟨rfl, rfl, trivial⟩, rfl, rfl⟩⟩
                · refine bselF hb41 ?_
                  refine bselF hb41 ?_
                  refine bselF hb41 ?_
                  refine bselF hb41 ?_
                  refine bselM h39 (fun hb42 h39 => ?_) (fun hb42 h39 => ?_)
                  · refine bselT hb42 ?_
                    refine bselF hb41 ?_
                    refine bselT hb42 ?_
                    refine bselF hb41 ?_
                    refine bselM h39 (fun hb43 h39 => ?_) (fun hb43 h39 => ?_)
                    · refine bselT hb43 ?_
                      refine bselT hb43 ?_
                      refine bselT hb43 ?_
                      refine bselF hb41 ?_
                      refine bselT hb43 ?_
                      refine bselF hb41 ?_
                      refine qn1538 _ _ ?_
                      obtain rfl := Option.some.inj h39
                      refine EOk.done ?_
                      exact ⟨⟨_, rfl⟩, [], trivial, ⟨⟨rfl, rfl, rfl, rfl, (by repeat (first | exact trivial | exact rfl | (refine And.intro ?_ ?_))), rfl, rfl, (by repeat (first | exact trivial | exact rfl | (refine And.intro ?_ ?_))), rfl, rfl, rfl, trivial⟩, ⟨rfl, rfl, trivial⟩, rfl, rfl⟩⟩
                    · refine bselF hb43 ?_
                      refine bselF hb43 ?_
                      refine bselF hb43 ?_
                      refine bselF hb41 ?_
                      refine bselF hb43 ?_
                      refine bselF hb41 ?_
                      refine qn1538 _ _ ?_
                      obtain rfl := Option.some.inj h39
                      refine EOk.done ?_
                      exact ⟨⟨_, rfl⟩, [], trivial, ⟨⟨rfl, rfl, rfl, rfl, (by repeat (first | exact trivial | exact rfl | (refine And.intro ?_ ?_))), rfl, rfl, (by repeat (first | exact trivial | exact rfl | (refine And.intro ?_ ?_))), rfl, rfl, rfl, trivial⟩, ⟨rfl, rfl, trivial⟩, rfl, rfl⟩⟩
                  · refine bselF hb42 ?_
                    refine bselF hb41 ?_
                    refine bselF hb42 ?_
                    refine bselF hb41 ?_
                    refine bselF hb41 ?_
                    refine bselF hb41 ?_
                    refine qn1538 _ _ ?_
                    obtain rfl := Option.some.inj h39
                    refine EOk.done ?_
                    exact ⟨⟨_, rfl⟩, [], trivial, ⟨⟨rfl, rfl, rfl, rfl, (by repeat (first | exact trivial | exact rfl | (refine And.intro ?_ ?_))), rfl, rfl, (by repeat (first | exact trivial | exact rfl | (refine And.intro ?_ ?_))), rfl, rfl, rfl, trivial⟩, ⟨rfl, rfl, trivial⟩, rfl, rfl⟩⟩
              rintro ⟨v38, hv_⟩
              replace hv_ := hv_.symm
              subst hv_
              refine qn1537 _ _ ?_
              obtain ⟨o47, h46, h31⟩ := bindM h31
              refine COk.joinR (ι := { s : (Int × Int) // o47 = s }) (fun s => [(3, .ptr 3 0), (6, .int s.1.1), (7, .int s.1.2), (12, .sl 4 (List.map eTl a0)), (13, .int (a0.length : Int)), (14, .int (k2 : Int)), (23, .sl 2 (List.map eLn x14.classes)), (24, .int (x14.classes.length : Int)), (25, .int (k23 : Int))]) (fun s => [(3, .box (eSt a1) 24)]) (fun Q1539 qn1539 qx1539 qr1539 => ?_) (by intro s; rw [hn]; rfl) ?_
              · refine goc hn ?_
                refine bselM h46 (fun hb48 h46 => ?_) (fun hb48 h46 => ?_)
                · refine god hn (by kernel_rfl) ?_
                  refine qn1539 _ _ ?_
                  obtain rfl := Option.some.inj h46
                  refine EOk.done ?_
                  exact ⟨⟨_, rfl⟩, [], trivial, ⟨⟨rfl, rfl, rfl, (by repeat (first | exact trivial | exact rfl | (refine And.intro ?_ ?_))), rfl, rfl, (by repeat (first | exact trivial | exact rfl | (refine And.intro ?_ ?_))), rfl, rfl, trivial⟩, ⟨rfl, trivial⟩, rfl, rfl⟩⟩
                · refine gok hn ?_
                  refine qn1539 _ _ ?_
                  obtain rfl := Option.some.inj h46
                  refine EOk.done ?_
                  exact ⟨⟨_, rfl⟩, [], trivial, ⟨⟨rfl, rfl, rfl, (by repeat (first | exact trivial | exact rfl | (refine And.intro ?_ ?_))), rfl, rfl, (by repeat (first | exact trivial | exact rfl | (refine And.intro ?_ ?_))), rfl, rfl, trivial⟩, ⟨rfl, trivial⟩, rfl, rfl⟩⟩
              rintro ⟨⟨v44, v45⟩, rfl⟩
              refine qn1535 _ _ ?_
              refine qn1529 _ _ ?_
              refine gor hn ?_
              refine Or.inl (And.intro (inrK hx36 hl22) ?_)
              refine qn1524 _ _ ?_
              refine EOk.done ?_
              exact ⟨⟨(rest32, k23 + 1, v44, v45), hd2, h31⟩, [], by show rest32.length < rest32.length + 1; omega, ⟨⟨rfl, rfl, rfl, (by repeat (first | exact trivial | exact rfl | (refine And.intro ?_ ?_))), rfl, rfl, (by repeat (first | exact trivial | exact rfl | (refine And.intro ?_ ?_))), rfl, rfl, trivial⟩, ⟨rfl, trivial⟩, rfl, rfl⟩⟩
          rintro ⟨⟨v28, v29⟩, rfl⟩
          refine qn1478 _ _ ?_
          refine qn1477 _ _ ?_
          obtain rfl := Option.some.inj h19
          refine EOk.done ?_
          exact ⟨⟨_, rfl⟩, [], trivial, ⟨⟨rfl, rfl, rfl, (by repeat (first | exact trivial | exact rfl | (refine And.intro ?_ ?_))), rfl, rfl, trivial⟩, ⟨rfl, trivial⟩, rfl, rfl⟩⟩
      rintro ⟨⟨v17, v18⟩, rfl⟩
      refine qn1352 _ _ ?_
      refine gor hn ?_
      refine Or.inl (And.intro (inrK hx15 hl1) ?_)
      refine qn1347 _ _ ?_
      refine EOk.done ?_
      exact ⟨⟨(rest11, k2 + 1, v17, v18), hd2, h10⟩, [], by show rest11.length < rest11.length + 1; omega, ⟨⟨rfl, rfl, rfl, (by repeat (first | exact trivial | exact rfl | (refine And.intro ?_ ?_))), rfl, rfl, trivial⟩, ⟨rfl, trivial⟩, rfl, rfl⟩⟩
  rintro ⟨⟨v7, v8⟩, rfl⟩
  refine qn773 _ _ ?_
  refine COk.seqQ fun Q1540 qn1540 qx1540 qr1540 => ?_
  refine gor hn ?_
  refine qn1540 _ _ ?_
  refine got hn ?_
  obtain rfl := Option.some.inj h
  exact ⟨[], _, rfl, (by repeat (first | exact trivial | exact rfl | (refine And.intro ?_ ?_))), trivial, rfl, rfl, rfl, rfl, rfl⟩

/- slices.Clone[[]api.Line,api.Line] -/
set_option maxRecDepth 100000 in
theorem slices_Clone_Ln_ok (N : Nat) (l : List Ln) (r : List Ln) (h : slices_Clone_Ln N l = some r) : Spec Try.prog 59 [] [.sl 2 (List.map eLn l)] (.own 0) [(0, .row 2 (List.map eLn r) 29)] [0] := by
  obtain ⟨hf, h⟩ := guardM h
  obtain rfl := Option.some.inj h
  refine Spec.of tabOk Try.func59 rfl Try.ntmps59 (by kernel_rfl) rfl rfl rfl fun Γ hn => ?_
  refine gos hn ?_
  refine COk.seq (COk.seq (COk.ops (goo hn 1 ?_)))
  refine OOk.gh (Gh.nil 3 rfl) ?_
  rintro ⟨b, hb⟩
  refine goo hn 1 (OOk.done ?_)
  (repeat (first | refine gos hn ?_ | refine gor hn ?_ | refine gob hn ?_ | refine goc hn ?_ | refine goe hn ?_ | refine gok hn ?_ | refine got hn ?_))
  refine bsel_b (fun hb1 => ?_) (fun hb1 => ?_)
  · have e : l = [] := by simpa using hb hb1
    subst e
    refine gos hn ?_
    refine COk.nilrow 2 5 2 29 rfl rfl rfl ?_
    (repeat (first | refine gos hn ?_ | refine gor hn ?_ | refine gob hn ?_ | refine goc hn ?_ | refine goe hn ?_ | refine gok hn ?_ | refine got hn ?_))
    exact ⟨[(0, 5)], _, rfl, rfl, ⟨rfl, trivial⟩, rfl, rfl, rfl, rfl, rfl⟩
  · (repeat (first | refine gos hn ?_ | refine gor hn ?_ | refine gob hn ?_ | refine goc hn ?_ | refine goe hn ?_ | refine gok hn ?_ | refine got hn ?_))
    refine Exists.intro [] (And.intro trivial ?_)
    refine And.intro (by have := Nat.le_of_ble_eq_true hf; simpa using this) ?_
    refine Exists.intro (List.map eLn l) (And.intro (leLs_refl _) ?_)
    (repeat (first | refine gos hn ?_ | refine gor hn ?_ | refine gob hn ?_ | refine goc hn ?_ | refine goe hn ?_ | refine gok hn ?_ | refine got hn ?_))
    exact ⟨[(0, 7)], _, rfl, rfl, ⟨rfl, trivial⟩, rfl, rfl, rfl, rfl, rfl⟩

/- tally.Own -/
set_option maxRecDepth 100000 in
set_option maxHeartbeats 1000000 in
theorem tally_Own_ok (N : Nat) (a0 : (List Tl)) (r : (List Tl)) (h : tally_Own N a0 = some r) : Spec Try.prog 19 [] [.sl 4 (List.map eTl a0)] (.own 0) [(0, .row 4 (List.map eTl r) 27)] [0] := by
  refine Spec.of tabOk Try.func19 rfl Try.ntmps19 (by kernel_rfl) rfl rfl rfl fun Γ hn => ?_
  unfold tally_Own at h
  refine COk.seqQ fun Q56 qn56 qx56 qr56 => ?_
  refine gor hn ?_
  refine qn56 _ _ ?_
  refine COk.seqQ fun Q57 qn57 qx57 qr57 => ?_
  refine gor hn ?_
  refine qn57 _ _ ?_
  refine COk.seqQ fun Q58 qn58 qx58 qr58 => ?_
  refine COk.seqQ fun Q59 qn59 qx59 qr59 => ?_
  refine gor hn ?_
  refine lenM (fun hl1 => ?_)
  refine qn59 _ _ ?_
  refine COk.nilrow 3 203 4 27 rfl rfl rfl ?_
  obtain ⟨o6, h7, h⟩ := bindM h
  refine COk.joinR (ι := { s : (List Tl) // o6 = s }) (fun s => [(3, .own 203)]) (fun s => [(203, .row 4 (List.map eTl s.1) 27)]) (fun Q96 qn96 qx96 qr96 => ?_) (by intro s; rw [hn]; rfl) ?_
  · refine COk.blkQ fun Q97 qn97 qe97 qx97 qr97 => ?_
    refine COk.loopQ (ι := { q : ((List Tl) × Nat × (List Tl)) // q.1 = a0.drop q.2.1 ∧ tally_Own_l1 N q.1 q.2.1 q.2.2 = some o6 }) (fun q => [(3, .own 203), (6, .sl 4 (List.map eTl a0)), (7, .int (a0.length : Int)), (8, .int (q.1.2.1 : Int))]) (fun q => [(203, .row 4 (List.map eTl q.1.2.2) 27)]) (fun q => q.1.1.length) ⟨(a0, 0, ([] : List Tl)), rfl, h7⟩ [] ⟨⟨rfl, (by repeat (first | exact trivial | exact rfl | (refine And.intro ?_ ?_))), rfl, rfl, trivial⟩, ⟨rfl, trivial⟩, rfl, rfl⟩ (by intro q; rw [hn]; rfl) ?_
    rintro ⟨⟨rest_, k2, v3⟩, hd9, h7⟩ Q98 qn98 qx98 qr98
    replace hd9 : rest_ = a0.drop k2 := hd9
    rcases rest_ with _ | ⟨x11, rest8⟩
    · have hlt13 := restNil hd9
      replace h7 := (tally_Own_l1.eq_1 _ _ _).symm.trans h7
      refine COk.seqQ fun Q99 qn99 qx99 qr99 => ?_
      refine gor hn ?_
      refine qn99 _ _ ?_
      refine COk.seqQ fun Q100 qn100 qx100 qr100 => ?_
      refine goc hn ?_
      refine bselF hlt13 ?_
      refine goe hn ?_
      refine qx100 _ _ _ ?_
      refine qx98 _ _ _ ?_
      refine qe97 _ _ ?_
      refine qn96 _ _ ?_
      obtain rfl := Option.some.inj h7
      refine EOk.done ?_
      exact ⟨⟨_, rfl⟩, [], trivial, ⟨⟨rfl, trivial⟩, ⟨rfl, trivial⟩, rfl, rfl⟩⟩
    · obtain ⟨hx12, hd2, hlt13⟩ := restCons hd9
      replace h7 := (tally_Own_l1.eq_2 _ _ _ _ _).symm.trans h7
      refine COk.seqQ fun Q101 qn101 qx101 qr101 => ?_
      refine gor hn ?_
      refine qn101 _ _ ?_
      refine COk.seqQ fun Q102 qn102 qx102 qr102 => ?_
      refine goc hn ?_
      refine bselT hlt13 ?_
      refine gok hn ?_
      refine qn102 _ _ ?_
      refine COk.seqQ fun Q103 qn103 qx103 qr103 => ?_
      refine COk.blkQ fun Q107 qn107 qe107 qx107 qr107 => ?_
      refine COk.seqQ fun Q108 qn108 qx108 qr108 => ?_
      refine gor hn ?_
      refine idxK hx12 ?_
      refine qn108 _ _ ?_
      refine COk.seqQ fun Q109 qn109 qx109 qr109 => ?_
      refine gor hn ?_
      obtain ⟨r14, hr15, h7⟩ := bindM h7
      show CallOk Try.prog _ _ _ _
      refine CallOk.as ((slices_Clone_Ln_ok N x11.classes r14 hr15).sw 0 14) (by repeat (first | exact trivial | exact rfl | (refine And.intro ?_ ?_))) trivial rfl ?_
      refine qn109 _ _ ?_
      refine gor hn ?_
      refine Exists.intro (List.map eTl [(⟨x11.site, r14⟩ : Tl)]) (And.intro (by repeat (first | exact trivial | exact rfl | (refine And.intro ?_ ?_))) ?_)
      obtain ⟨hg16, h7⟩ := guardM h7
      refine appM (l2 := [(⟨x11.site, r14⟩ : Tl)]) hg16 (leLs_refl _) ?_
      refine qn107 _ _ ?_
      refine qn103 _ _ ?_
      refine gor hn ?_
      refine Or.inl (And.intro (inrK hx12 hl1) ?_)
      refine qn98 _ _ ?_
      refine EOk.done ?_
      exact ⟨⟨(rest8, k2 + 1, (v3 ++ [(⟨x11.site, r14⟩ : Tl)])), hd2, h7⟩, [(203, 19)], by show rest8.length < rest8.length + 1; omega, ⟨⟨rfl, (by repeat (first | exact trivial | exact rfl | (refine And.intro ?_ ?_))), rfl, rfl, trivial⟩, ⟨rfl, trivial⟩, rfl, rfl⟩⟩
  rintro ⟨v5, hv_⟩
  replace hv_ := hv_.symm
  subst hv_
  refine qn58 _ _ ?_
  refine COk.seqQ fun Q110 qn110 qx110 qr110 => ?_
  refine gor hn ?_
  refine qn110 _ _ ?_
  refine got hn ?_
  obtain rfl := Option.some.inj h
  exact ⟨[(0, 203)], _, rfl, (by repeat (first | exact trivial | exact rfl | (refine And.intro ?_ ?_))), ⟨rfl, trivial⟩, rfl, rfl, rfl, rfl, rfl⟩

/- slices.IndexFunc[[]api.Tally,api.Tally] -/
set_option maxRecDepth 100000 in
set_option maxHeartbeats 1000000 in
theorem slices_IndexFunc_api_Tally_api_Tally_c1_ok (N : Nat) (a0 : (List Tl)) (g1 : Tl → Option Bool) {K1 : Nat} {c1_0 : List AV} (hg1 : ∀ x0_ y_, g1 x0_ = some y_ → Spec Try.prog K1 [] [.agg (eTl x0_), .fp c1_0] (.bool y_) [] []) (r : Int) (h : slices_IndexFunc_api_Tally_api_Tally_c1 N a0 g1 = some r) : Spec Try.prog 55 [] [.sl 4 (List.map eTl a0), .fn K1 [.fp c1_0]] (.int r) [] [] := by
  refine Spec.of tabOk Try.func55 rfl Try.ntmps55 (by kernel_rfl) rfl rfl rfl fun Γ hn => ?_
  unfold slices_IndexFunc_api_Tally_api_Tally_c1 at h
  refine COk.seqQ fun Q49 qn49 qx49 qr49 => ?_
  refine gor hn ?_
  refine qn49 _ _ ?_
  refine COk.seqQ fun Q50 qn50 qx50 qr50 => ?_
  refine COk.seqQ fun Q51 qn51 qx51 qr51 => ?_
  refine gor hn ?_
  refine lenM (fun hl1 => ?_)
  refine qn51 _ _ ?_
  obtain ⟨o3, h4, h⟩ := bindM h
  refine COk.joinR (ι := { s : Unit // o3 = Ctl.next s }) (fun s => []) (fun s => []) (fun Q78 qn78 qx78 qr78 => ?_) (by intro s; rw [hn]; rfl) ?_
  · refine COk.blkQ fun Q79 qn79 qe79 qx79 qr79 => ?_
    refine COk.loopQ (ι := { q : ((List Tl) × Nat) // q.1 = a0.drop q.2 ∧ slices_IndexFunc_api_Tally_api_Tally_c1_l1 N g1 q.1 q.2 = some o3 }) (fun q => [(0, .sl 4 (List.map eTl a0)), (1, .fn K1 [.fp c1_0]), (7, .int (a0.length : Int)), (8, .int (q.1.2 : Int))]) (fun q => []) (fun q => q.1.1.length) ⟨(a0, 0), rfl, h4⟩ [] ⟨⟨(by repeat (first | exact trivial | exact rfl | (refine And.intro ?_ ?_))), rfl, rfl, rfl, trivial⟩, trivial, rfl, rfl⟩ (by intro q; rw [hn]; rfl) ?_
    rintro ⟨⟨rest_, k2⟩, hd6, h4⟩ Q80 qn80 qx80 qr80
    replace hd6 : rest_ = a0.drop k2 := hd6
    rcases rest_ with _ | ⟨x8, rest5⟩
    · have hlt10 := restNil hd6
      replace h4 := (slices_IndexFunc_api_Tally_api_Tally_c1_l1.eq_1 _ _ _).symm.trans h4
      refine COk.seqQ fun Q81 qn81 qx81 qr81 => ?_
      refine gor hn ?_
      refine qn81 _ _ ?_
      refine COk.seqQ fun Q82 qn82 qx82 qr82 => ?_
      refine goc hn ?_
      refine bselF hlt10 ?_
      refine goe hn ?_
      refine qx82 _ _ _ ?_
      refine qx80 _ _ _ ?_
      refine qe79 _ _ ?_
      refine qn78 _ _ ?_
      obtain rfl := Option.some.inj h4
      refine EOk.done ?_
      exact ⟨⟨_, rfl⟩, [], trivial, ⟨trivial, trivial, rfl, rfl⟩⟩
    · obtain ⟨hx9, hd2, hlt10⟩ := restCons hd6
      replace h4 := (slices_IndexFunc_api_Tally_api_Tally_c1_l1.eq_2 _ _ _ _ _).symm.trans h4
      refine COk.seqQ fun Q83 qn83 qx83 qr83 => ?_
      refine gor hn ?_
      refine qn83 _ _ ?_
      refine COk.seqQ fun Q84 qn84 qx84 qr84 => ?_
      refine goc hn ?_
      refine bselT hlt10 ?_
      refine gok hn ?_
      refine qn84 _ _ ?_
      refine COk.seqQ fun Q85 qn85 qx85 qr85 => ?_
      refine COk.blkQ fun Q91 qn91 qe91 qx91 qr91 => ?_
      refine COk.seqQ fun Q92 qn92 qx92 qr92 => ?_
      refine gor hn ?_
      refine qn92 _ _ ?_
      refine COk.seqQ fun Q93 qn93 qx93 qr93 => ?_
      refine gor hn ?_
      refine idxK hx9 ?_
      obtain ⟨r11, hr12, h4⟩ := bindM h4
      show CallOk Try.prog _ _ _ _
      refine CallOk.as (hg1 _ _ hr12) (by repeat (first | exact trivial | exact rfl | (refine And.intro ?_ ?_))) trivial rfl ?_
      refine qn93 _ _ ?_
      refine goc hn ?_
      refine bselM h4 (fun hb13 h4 => ?_) (fun hb13 h4 => ?_)
      · refine COk.seqQ fun Q95 qn95 qx95 qr95 => ?_
        refine gor hn ?_
        refine qn95 _ _ ?_
        refine got hn ?_
        refine qr91 _ _ ?_
        refine qr85 _ _ ?_
        refine qr80 _ _ ?_
        refine qr79 _ _ ?_
        refine qr78 _ _ ?_
        refine qr50 _ _ ?_
        obtain rfl := Option.some.inj h4
        obtain rfl := Option.some.inj h
        exact ⟨[], _, rfl, (by repeat (first | exact trivial | exact rfl | (refine And.intro ?_ ?_))), trivial, rfl, rfl, rfl, rfl, rfl⟩
      · refine gok hn ?_
        refine qn91 _ _ ?_
        refine qn85 _ _ ?_
        refine gor hn ?_
        refine Or.inl (And.intro (inrK hx9 hl1) ?_)
        refine qn80 _ _ ?_
        refine EOk.done ?_
        exact ⟨⟨(rest5, k2 + 1), hd2, h4⟩, [], by show rest5.length < rest5.length + 1; omega, ⟨⟨(by repeat (first | exact trivial | exact rfl | (refine And.intro ?_ ?_))), rfl, rfl, rfl, trivial⟩, trivial, rfl, rfl⟩⟩
  rintro ⟨⟨⟩, rfl⟩
  refine qn50 _ _ ?_
  refine COk.seqQ fun Q96 qn96 qx96 qr96 => ?_
  refine gor hn ?_
  refine qn96 _ _ ?_
  refine got hn ?_
  obtain rfl := Option.some.inj h
  exact ⟨[], _, rfl, (by repeat (first | exact trivial | exact rfl | (refine And.intro ?_ ?_))), trivial, rfl, rfl, rfl, rfl, rfl⟩

/- tally.Add$1 -/
set_option maxRecDepth 100000 in
set_option maxHeartbeats 1000000 in
theorem tally_Add_1_ok (N : Nat) (a0 : Tl) (b0 : St) (r : Bool) (h : tally_Add_1 N a0 b0 = some r) : Spec Try.prog 56 [] [.agg (eTl a0), .fp (eSt b0)] (.bool r) [] [] := by
  refine Spec.of tabOk Try.func56 rfl Try.ntmps56 (by kernel_rfl) rfl rfl rfl fun Γ hn => ?_
  unfold tally_Add_1 at h
  refine COk.seqQ fun Q3 qn3 qx3 qr3 => ?_
  refine gor hn ?_
  refine qn3 _ _ ?_
  refine COk.seqQ fun Q4 qn4 qx4 qr4 => ?_
  refine gor hn ?_
  refine qn4 _ _ ?_
  refine got hn ?_
  obtain rfl := Option.some.inj h
  exact ⟨[], _, rfl, (by repeat (first | exact trivial | exact rfl | (refine And.intro ?_ ?_))), trivial, rfl, rfl, rfl, rfl, rfl⟩

/- slices.IndexFunc[[]api.Line,api.Line] -/
set_option maxRecDepth 100000 in
set_option maxHeartbeats 1000000 in
theorem slices_IndexFunc_api_Line_api_Line_c1_ok (N : Nat) (a0 : (List Ln)) (g1 : Ln → Option Bool) {K1 : Nat} {c1_0 : List AV} (hg1 : ∀ x0_ y_, g1 x0_ = some y_ → Spec Try.prog K1 [] [.agg (eLn x0_), .fp c1_0] (.bool y_) [] []) (r : Int) (h : slices_IndexFunc_api_Line_api_Line_c1 N a0 g1 = some r) : Spec Try.prog 57 [] [.sl 2 (List.map eLn a0), .fn K1 [.fp c1_0]] (.int r) [] [] := by
  refine Spec.of tabOk Try.func57 rfl Try.ntmps57 (by kernel_rfl) rfl rfl rfl fun Γ hn => ?_
  unfold slices_IndexFunc_api_Line_api_Line_c1 at h
  refine COk.seqQ fun Q49 qn49 qx49 qr49 => ?_
  refine gor hn ?_
  refine qn49 _ _ ?_
  refine COk.seqQ fun Q50 qn50 qx50 qr50 => ?_
  refine COk.seqQ fun Q51 qn51 qx51 qr51 => ?_
  refine gor hn ?_
  refine lenM (fun hl1 => ?_)
  refine qn51 _ _ ?_
  obtain ⟨o3, h4, h⟩ := bindM h
  refine COk.joinR (ι := { s : Unit // o3 = Ctl.next s }) (fun s => []) (fun s => []) (fun Q78 qn78 qx78 qr78 => ?_) (by intro s; rw [hn]; rfl) ?_
  · refine COk.blkQ fun Q79 qn79 qe79 qx79 qr79 => ?_
    refine COk.loopQ (ι := { q : ((List Ln) × Nat) // q.1 = a0.drop q.2 ∧ slices_IndexFunc_api_Line_api_Line_c1_l1 N g1 q.1 q.2 = some o3 }) (fun q => [(0, .sl 2 (List.map eLn a0)), (1, .fn K1 [.fp c1_0]), (7, .int (a0.length : Int)), (8, .int (q.1.2 : Int))]) (fun q => []) (fun q => q.1.1.length) ⟨(a0, 0), rfl, h4⟩ [] ⟨⟨(by repeat (first | exact trivial | exact rfl | (refine And.intro ?_ ?_))), rfl, rfl, rfl, trivial⟩, trivial, rfl, rfl⟩ (by intro q; rw [hn]; rfl) ?_
    rintro ⟨⟨rest_, k2⟩, hd6, h4⟩ Q80 qn80 qx80 qr80
    replace hd6 : rest_ = a0.drop k2 := hd6
    rcases rest_ with _ | ⟨x8, rest5⟩
    · have hlt10 := restNil hd6
      replace h4 := (slices_IndexFunc_api_Line_api_Line_c1_l1.eq_1 _ _ _).symm.trans h4
      refine COk.seqQ fun Q81 qn81 qx81 qr81 => ?_
      refine gor hn ?_
      refine qn81 _ _ ?_
      refine COk.seqQ fun Q82 qn82 qx82 qr82 => ?_
      refine goc hn ?_
      refine bselF hlt10 ?_
      refine goe hn ?_
      refine qx82 _ _ _ ?_
      refine qx80 _ _ _ ?_
      refine qe79 _ _ ?_
      refine qn78 _ _ ?_
      obtain rfl := Option.some.inj h4
      refine EOk.done ?_
      exact ⟨⟨_, rfl⟩, [], trivial, ⟨trivial, trivial, rfl, rfl⟩⟩
    · obtain ⟨hx9, hd2, hlt10⟩ := restCons hd6
      replace h4 := (slices_IndexFunc_api_Line_api_Line_c1_l1.eq_2 _ _ _ _ _).symm.trans h4
      refine COk.seqQ fun Q83 qn83 qx83 qr83 => ?_
      refine gor hn ?_
      refine qn83 _ _ ?_
      refine COk.seqQ fun Q84 qn84 qx84 qr84 => ?_
      refine goc hn ?_
      refine bselT hlt10 ?_
      refine gok hn ?_
      refine qn84 _ _ ?_
      refine COk.seqQ fun Q85 qn85 qx85 qr85 => ?_
      refine COk.blkQ fun Q91 qn91 qe91 qx91 qr91 => ?_
      refine COk.seqQ fun Q92 qn92 qx92 qr92 => ?_
      refine gor hn ?_
      refine qn92 _ _ ?_
      refine COk.seqQ fun Q93 qn93 qx93 qr93 => ?_
      refine gor hn ?_
      refine idxK hx9 ?_
      obtain ⟨r11, hr12, h4⟩ := bindM h4
      show CallOk Try.prog _ _ _ _
      refine CallOk.as (hg1 _ _ hr12) (by repeat (first | exact trivial | exact rfl | (refine And.intro ?_ ?_))) trivial rfl ?_
      refine qn93 _ _ ?_
      refine goc hn ?_
      refine bselM h4 (fun hb13 h4 => ?_) (fun hb13 h4 => ?_)
      · refine COk.seqQ fun Q95 qn95 qx95 qr95 => ?_
        refine gor hn ?_
        refine qn95 _ _ ?_
        refine got hn ?_
        refine qr91 _ _ ?_
        refine qr85 _ _ ?_
        refine qr80 _ _ ?_
        refine qr79 _ _ ?_
        refine qr78 _ _ ?_
        refine qr50 _ _ ?_
        obtain rfl := Option.some.inj h4
        obtain rfl := Option.some.inj h
        exact ⟨[], _, rfl, (by repeat (first | exact trivial | exact rfl | (refine And.intro ?_ ?_))), trivial, rfl, rfl, rfl, rfl, rfl⟩
      · refine gok hn ?_
        refine qn91 _ _ ?_
        refine qn85 _ _ ?_
        refine gor hn ?_
        refine Or.inl (And.intro (inrK hx9 hl1) ?_)
        refine qn80 _ _ ?_
        refine EOk.done ?_
        exact ⟨⟨(rest5, k2 + 1), hd2, h4⟩, [], by show rest5.length < rest5.length + 1; omega, ⟨⟨(by repeat (first | exact trivial | exact rfl | (refine And.intro ?_ ?_))), rfl, rfl, rfl, trivial⟩, trivial, rfl, rfl⟩⟩
  rintro ⟨⟨⟩, rfl⟩
  refine qn50 _ _ ?_
  refine COk.seqQ fun Q96 qn96 qx96 qr96 => ?_
  refine gor hn ?_
  refine qn96 _ _ ?_
  refine got hn ?_
  obtain rfl := Option.some.inj h
  exact ⟨[], _, rfl, (by repeat (first | exact trivial | exact rfl | (refine And.intro ?_ ?_))), trivial, rfl, rfl, rfl, rfl, rfl⟩

/- tally.Add$2 -/
set_option maxRecDepth 100000 in
set_option maxHeartbeats 1000000 in
theorem tally_Add_2_ok (N : Nat) (a0 : Ln) (b0 : Int) (r : Bool) (h : tally_Add_2 N a0 b0 = some r) : Spec Try.prog 58 [] [.agg (eLn a0), .fp [.int b0]] (.bool r) [] [] := by
  refine Spec.of tabOk Try.func58 rfl Try.ntmps58 (by kernel_rfl) rfl rfl rfl fun Γ hn => ?_
  unfold tally_Add_2 at h
  refine COk.seqQ fun Q3 qn3 qx3 qr3 => ?_
  refine gor hn ?_
  refine qn3 _ _ ?_
  refine COk.seqQ fun Q4 qn4 qx4 qr4 => ?_
  refine gor hn ?_
  refine qn4 _ _ ?_
  refine got hn ?_
  obtain rfl := Option.some.inj h
  exact ⟨[], _, rfl, (by repeat (first | exact trivial | exact rfl | (refine And.intro ?_ ?_))), trivial, rfl, rfl, rfl, rfl, rfl⟩

/- tally.Add -/
theorem take_snoc {α : Type} {l : List α} {k : Nat} {x : α} (h : l[k]? = some x) : l.take (k + 1) = l.take k ++ [x] := by
  rw [List.take_add_one, h]; rfl
theorem clone_fit (N : Nat) {l : List Ln} (h : Fit l.length 16) : slices_Clone_Ln N l = some l := by
  unfold slices_Clone_Ln
  rw [show Nat.ble (l.length * 16) 140737488355328 = true from Nat.ble_eq_true_of_le h]
  rfl
def preTl (t : Tl) : List AV := [.int t.site.cls, .str t.site.name, .int t.site.pos]
def nTl (t : Tl) : List AV × List (List AV) := (preTl t, t.classes.map eLn)
theorem nOut_snoc (z : List (Hd × List AV × List (List AV))) (x : Hd × List AV × List (List AV)) : nOut (z ++ [x]) = nOut z ++ [x.2.1 ++ [.con x.1.v]] := by simp [nOut]
theorem nIn_snoc (z : List (Hd × List AV × List (List AV))) (x : Hd × List AV × List (List AV)) : nIn (z ++ [x]) = nIn z ++ [(x.1, x.2.2)] := by simp [nIn]
theorem nLen {z : List (Hd × List AV × List (List AV))} {α : Type} {l : List α} {f : α → List AV × List (List AV)} (h : z.map (·.2) = l.map f) : z.length = l.length := by
  have := congrArg List.length h
  simpa using this
set_option maxRecDepth 100000 in
theorem tally_Own_nst (N : Nat) (l : List Tl) (hf : Fit l.length 56) (hf2 : ∀ t ∈ l, Fit t.classes.length 16) : Spec Try.prog 19 [] [.sl 4 (l.map eTl)] (.nst 0) [(0, .nest 4 27 2 29 (l.map nTl))] [0] := by
  refine Spec.of tabOk Try.func19 rfl Try.ntmps19 (by kernel_rfl) rfl rfl rfl fun Γ hn => ?_
  (repeat (first | refine gos hn ?_ | refine gor hn ?_ | refine gob hn ?_ | refine goc hn ?_ | refine goe hn ?_ | refine gok hn ?_ | refine got hn ?_))
  refine lenM (fun hlen => ?_)
  (repeat (first | refine gos hn ?_ | refine gor hn ?_ | refine gob hn ?_ | refine goc hn ?_ | refine goe hn ?_ | refine gok hn ?_ | refine got hn ?_))
  refine COk.nilrow 3 3 4 27 rfl rfl rfl ?_
  refine COk.gh (Gh.pins0 100 2 29 rfl rfl) (fun _ => ?_)
  refine COk.loop (ι := {p : Nat × List (Hd × List AV × List (List AV)) // p.1 ≤ l.length ∧ p.2.map (·.2) = (l.take p.1).map nTl}) (fun p => [(6, .sl 4 (l.map eTl)), (7, .int l.length), (8, .int p.1.1), (3, .own 3)])
    (fun p => [(3, .row 4 (nOut p.1.2) 27), (100, .pins 2 (nIn p.1.2) 29)]) (fun p => l.length - p.1.1) ⟨(0, []), by omega, rfl⟩ [] ?_ ?_ ?_
  · exact ⟨⟨rfl, rfl, rfl, rfl, trivial⟩, ⟨rfl, rfl, trivial⟩, rfl, rfl⟩
  · intro k; rw [hn]; rfl
  rintro ⟨⟨k, z⟩, hk, hz⟩
  have hk : k ≤ l.length := hk
  have hz : z.map (·.2) = (l.take k).map nTl := hz
  (repeat (first | refine gos hn ?_ | refine gor hn ?_ | refine gob hn ?_ | refine goc hn ?_ | refine goe hn ?_ | refine gok hn ?_ | refine got hn ?_))
  refine bsel_dec (fun hlt => ?_) (fun hge => ?_)
  · have hlt : k < l.length := by have : (k : Int) < (l.length : Int) := hlt; omega
    (repeat (first | refine gos hn ?_ | refine gor hn ?_ | refine gob hn ?_ | refine goc hn ?_ | refine goe hn ?_ | refine gok hn ?_ | refine got hn ?_))
    refine And.intro (by omega) (And.intro (by simpa using hlt) ?_)
    intro cs hcs hrng
    obtain ⟨x, hx, rfl⟩ := nthm hcs
    have hx : l[k]? = some x := hx
    (repeat (first | refine gos hn ?_ | refine gor hn ?_ | refine gob hn ?_ | refine goc hn ?_ | refine goe hn ?_ | refine gok hn ?_ | refine got hn ?_))
    show CallOk Try.prog _ _ _ _; refine CallOk.as ((slices_Clone_Ln_ok N x.classes x.classes (clone_fit N (hf2 x (List.mem_of_getElem? hx)))).sw 0 14) (by first | exact leAs_of_eq rfl | ((repeat (refine And.intro rfl ?_)); exact trivial)) (by (repeat (refine And.intro rfl ?_)); exact trivial) rfl ?_
    refine COk.gh (Gh.pinB 5 3 14 100 rfl rfl rfl rfl rfl rfl rfl) (fun h => ?_)
    (repeat (first | refine gos hn ?_ | refine gor hn ?_ | refine gob hn ?_ | refine goc hn ?_ | refine goe hn ?_ | refine gok hn ?_ | refine got hn ?_))
    refine Exists.intro [[.int x.site.cls, .str x.site.name, .int x.site.pos, .con h.v]] (And.intro (by repeat (first | exact trivial | exact rfl | (refine And.intro ?_ ?_))) ?_)
    have hzl : (nOut z).length = k := by
      have := nLen hz
      rw [List.length_take] at this
      simp only [nOut, List.length_map]
      omega
    refine And.intro ?_ (Exists.intro (nOut (z ++ [(h, nTl x)])) (And.intro (by rw [nOut_snoc]; exact leLs_refl _) ?_))
    · show ((nOut z).length + 1) * 56 ≤ _
      rw [hzl]
      exact Nat.le_trans (Nat.mul_le_mul_right 56 hlt) hf
    (repeat (first | refine gos hn ?_ | refine gor hn ?_ | refine gob hn ?_ | refine goc hn ?_ | refine goe hn ?_ | refine gok hn ?_ | refine got hn ?_))
    refine Or.inl (And.intro (inr_succ hlt hlen) ?_)
    have hz2 : (z ++ [(h, nTl x)]).map (·.2) = (l.take (k + 1)).map nTl := by
      rw [take_snoc hx, List.map_append, List.map_append, show z.map (·.2) = (l.take k).map nTl from hz]
      rfl
    refine ⟨⟨(k + 1, z ++ [(h, nTl x)]), hlt, hz2⟩, [(3, 19)], by show l.length - (k + 1) < l.length - k; omega, ⟨⟨rfl, rfl, rfl, rfl, trivial⟩, ⟨rfl, ?_, trivial⟩, rfl, rfl⟩⟩
    · exact congrArg (fun q => some (Obj.pins 2 q 29)) (nIn_snoc z (h, nTl x)).symm
  · have e : k = l.length := by have : ¬ (k : Int) < (l.length : Int) := hge; omega
    subst e
    have hz : z.map (·.2) = l.map nTl := by
      have : z.map (·.2) = (l.take l.length).map nTl := hz
      rwa [List.take_length] at this
    refine goe hn ?_
    show COk Try.prog Γ _ _ _ _; refine COk.gh (Gh.close 3 3 100 101 z rfl rfl rfl rfl rfl hz rfl rfl rfl rfl rfl) ?_
    intro _
    (repeat (first | refine gos hn ?_ | refine gor hn ?_ | refine gob hn ?_ | refine goc hn ?_ | refine goe hn ?_ | refine gok hn ?_ | refine got hn ?_))
    exact ⟨[(0, 101)], _, rfl, rfl, ⟨rfl, trivial⟩, rfl, rfl, rfl, rfl, rfl⟩
theorem nFlat_Tl (l : List Tl) : nFlat 2 (l.map nTl) = l.map eTl := by simp [nFlat, nTl, preTl, eTl]
def ixf {α : Type} (p : α → Bool) (l : List α) : Int := match l.findIdx? p with
  | some i => i
  | none => -1
theorem ixf_cons {α : Type} (p : α → Bool) (x : α) (l : List α) : (x :: l).findIdx? p = if p x = true then some 0 else (l.findIdx? p).map (· + 1) := by
  rw [List.findIdx?_cons]
theorem ixT_eq (N : Nat) (s : St) : ∀ (l : List Tl) (k : Nat), slices_IndexFunc_api_Tally_api_Tally_c1_l1 N (fun x => tally_Add_1 N x s) l k = some (match l.findIdx? (fun t => decide (t.site = s)) with | some i => .ret ((k + i : Nat) : Int) | none => .next ())
  | [], k => rfl
  | x :: l, k => by
    rw [slices_IndexFunc_api_Tally_api_Tally_c1_l1, ixf_cons, ixT_eq N s l (k + 1)]
    unfold tally_Add_1
    rw [show eqAs (eSt x.site) (eSt s) = decide (x.site = s) from eqSt x.site s]
    by_cases e : x.site = s
    · simp [e]
    · cases l.findIdx? (fun t => decide (t.site = s)) <;> simp [e]; omega
theorem ixT (N : Nat) (s : St) (l : List Tl) : slices_IndexFunc_api_Tally_api_Tally_c1 N l (fun x => tally_Add_1 N x s) = some (ixf (fun t => decide (t.site = s)) l) := by
  unfold slices_IndexFunc_api_Tally_api_Tally_c1 ixf
  rw [ixT_eq]
  cases l.findIdx? (fun t => decide (t.site = s)) <;> simp
theorem ixL_eq (N : Nat) (c : Int) : ∀ (l : List Ln) (k : Nat), slices_IndexFunc_api_Line_api_Line_c1_l1 N (fun x => tally_Add_2 N x c) l k = some (match l.findIdx? (fun t => decide (t.cls = c)) with | some i => .ret ((k + i : Nat) : Int) | none => .next ())
  | [], k => rfl
  | x :: l, k => by
    rw [slices_IndexFunc_api_Line_api_Line_c1_l1, ixf_cons, ixL_eq N c l (k + 1)]
    unfold tally_Add_2
    by_cases e : x.cls = c
    · simp [e]
    · cases l.findIdx? (fun t => decide (t.cls = c)) <;> simp [e]; omega
theorem ixL (N : Nat) (c : Int) (l : List Ln) : slices_IndexFunc_api_Line_api_Line_c1 N l (fun x => tally_Add_2 N x c) = some (ixf (fun t => decide (t.cls = c)) l) := by
  unfold slices_IndexFunc_api_Line_api_Line_c1 ixf
  rw [ixL_eq]
  cases l.findIdx? (fun t => decide (t.cls = c)) <;> simp
theorem ixf_way {α : Type} (p : α → Bool) (l : List α) : (∃ (k : Nat) (x : α), ixf p l = (k : Int) ∧ l[k]? = some x ∧ p x = true ∧ l.findIdx? p = some k) ∨ (ixf p l = -1 ∧ l.findIdx? p = none) := by
  unfold ixf
  cases h : l.findIdx? p with
  | none => exact .inr ⟨rfl, rfl⟩
  | some k =>
    obtain ⟨hk, hp, _⟩ := List.findIdx?_eq_some_iff_getElem.1 h
    exact .inl ⟨k, l[k], rfl, List.getElem?_eq_getElem hk, hp, rfl⟩
theorem List.getElem_cons_eraseIdx_perm' {α : Type} : ∀ {l : List α} {n : Nat} (h : n < l.length), (l[n] :: l.eraseIdx n).Perm l
  | x :: l, 0, _ => .refl _
  | x :: l, n + 1, h => by
    have ih := List.getElem_cons_eraseIdx_perm' (l := l) (n := n) (by simpa using h)
    exact (List.Perm.swap x _ _).trans (ih.cons x)
theorem set_modify {α : Type} {l : List α} {k : Nat} {x : α} (h : l[k]? = some x) {f : α → α} : l.modify k f = l.set k (f x) := by
  apply List.ext_getElem?
  intro j
  rw [List.getElem?_modify, List.getElem?_set]
  split
  · rename_i e
    subst e
    rw [h, if_pos (List.getElem?_eq_some_iff.1 h).1]
    rfl
  · cases l[j]? <;> rfl
theorem set_perm {α : Type} : ∀ {l : List α} {k : Nat} {a : α}, k < l.length → (l.set k a).Perm (a :: l.eraseIdx k)
  | x :: l, 0, a, _ => .refl _
  | x :: l, k + 1, a, h => ((set_perm (l := l) (k := k) (a := a) (by simpa using h)).cons x).trans (List.Perm.swap _ _ _)
theorem map_at {α β : Type} {z : List (Hd × β)} {l : List α} {f : α → β} (h : z.map (·.2) = l.map f) {k : Nat} {x : α} (hx : l[k]? = some x) : ∃ g, z[k]? = some (g, f x) := by
  have : (z.map (·.2))[k]? = some (f x) := by rw [h]; simp [hx]
  rw [List.getElem?_map, Option.map_eq_some_iff] at this
  obtain ⟨⟨g, b⟩, h1, h2⟩ := this
  exact ⟨g, by rw [h1, ← h2]⟩
set_option maxRecDepth 100000 in
theorem tally_Add_ok (N : Nat) (l : List Tl) (s : St) (c : Int) (r : List Tl) (h : tally_Add N l s c = some r) : Spec Try.prog 17 [] [.sl 4 (l.map eTl), .agg (eSt s), .int c] (.own 0) [(0, .row 4 (r.map eTl) 27)] [0] := by
  unfold tally_Add at h
  obtain ⟨hg, h⟩ := guardM h
  obtain rfl := Option.some.inj h
  rw [Bool.and_eq_true, List.all_eq_true] at hg
  have hf : Fit (l.length + 1) 56 := Nat.le_of_ble_eq_true hg.1
  have hf2 : ∀ t ∈ l, Fit (t.classes.length + 1) 16 := fun t ht => Nat.le_of_ble_eq_true (hg.2 t ht)
  clear h hg
  refine Spec.of tabOk Try.func17 rfl Try.ntmps17 (by kernel_rfl) rfl rfl rfl fun Γ hn => ?_
  refine gos hn ?_
  show COk Try.prog Γ _ _ _ _; refine COk.gh (Gh.fzBox 4 4 rfl rfl rfl) ?_
  intro _
  show COk Try.prog Γ _ _ _ _; refine COk.gh (Gh.fzBox 5 5 rfl rfl rfl) ?_
  intro _
  (repeat (first | refine gos hn ?_ | refine gor hn ?_ | refine gob hn ?_ | refine goc hn ?_ | refine goe hn ?_ | refine gok hn ?_ | refine got hn ?_))
  show CallOk Try.prog _ _ _ _; refine CallOk.as ((tally_Own_nst N l (Nat.le_trans (Nat.mul_le_mul_right _ (Nat.le_succ _)) hf) (fun t ht => Nat.le_trans (Nat.mul_le_mul_right _ (Nat.le_succ _)) (hf2 t ht))).sw 0 11) (by first | exact leAs_of_eq rfl | ((repeat (refine And.intro rfl ?_)); exact trivial)) (by (repeat (refine And.intro rfl ?_)); exact trivial) rfl ?_
  (repeat (first | refine gos hn ?_ | refine gor hn ?_ | refine gob hn ?_ | refine goc hn ?_ | refine goe hn ?_ | refine gok hn ?_ | refine got hn ?_))
  show CallOk Try.prog _ _ _ _
  refine CallOk.lend (slices_IndexFunc_api_Tally_api_Tally_c1_ok N l (fun x => tally_Add_1 N x s) (fun x y hy => tally_Add_1_ok N x s y hy) _ (ixT N s l)) ?_ rfl ?_
  · show leAs [.sl 4 (nFlat 2 (l.map nTl)), .fn 56 [.fp (eSt s)]] _
    rw [nFlat_Tl]
    exact leAs_of_eq rfl
  show COk Try.prog Γ _ _ _ _; refine COk.gh (Gh.open 7 11 102 103 rfl rfl rfl rfl rfl rfl (fun _ => rfl)) ?_
  rintro ⟨z, hz⟩
  refine COk.cut (ι := { q : Nat × Tl × Hd × List (Hd × List AV × List (List AV)) // q.2.2.2[q.1]? = some (q.2.2.1, nTl q.2.1) ∧ q.2.2.2.map (·.2) = (ixd (fun t => decide (t.site = s)) ⟨s, []⟩ l).1.map nTl ∧ (ixd (fun t => decide (t.site = s)) ⟨s, []⟩ l).1[q.1]? = some q.2.1 ∧ (ixd (fun t => decide (t.site = s)) ⟨s, []⟩ l).2 = q.1 ∧ Fit (q.2.1.classes.length + 1) 16 })
    (fun q => [(7, .own 102), (8, .int q.1.1), (5, .fp [.int c])]) (fun q => [(102, .row 4 (nOut q.1.2.2.2) 27), (103, .pins 2 ((nIn q.1.2.2.2).eraseIdx q.1.1) 29), (104, .row 2 (q.1.2.1.classes.map eLn) 29), (105, .eqv 104 q.1.2.2.1.v)]) ?_ ?_ ?_
  · (repeat (first | refine gos hn ?_ | refine gor hn ?_ | refine gob hn ?_ | refine goc hn ?_ | refine goe hn ?_ | refine gok hn ?_ | refine got hn ?_))
    rcases ixf_way (fun t : Tl => decide (t.site = s)) l with ⟨k, x, e1, e2, e3, e4⟩ | ⟨e1, e2⟩
    · refine bsel_dec (fun hlt => ?_) (fun hge => ?_)
      · rw [e1] at hlt; omega
      · obtain ⟨h, hz1⟩ := map_at hz e2
        have hp : (nIn z).Perm ((h, x.classes.map eLn) :: (nIn z).eraseIdx k) := by
          have hk : (nIn z)[k]? = some (h, x.classes.map eLn) := by simp [nIn, hz1, nTl]
          obtain ⟨hl, hv⟩ := List.getElem?_eq_some_iff.1 hk
          rw [← hv]
          exact (List.getElem_cons_eraseIdx_perm' hl).symm
        show COk Try.prog Γ _ _ _ _; refine COk.gh (Gh.unpin 103 104 105 rfl hp rfl rfl rfl rfl rfl) ?_
        intro _
        refine gok hn ?_
        have ex : ixd (fun t : Tl => decide (t.site = s)) ⟨s, []⟩ l = (l, k) := by unfold ixd; rw [e4]
        refine ⟨⟨(k, x, h, z), hz1, by rw [ex]; exact hz, by rw [ex]; exact e2, by rw [ex], hf2 x (List.mem_of_getElem? e2)⟩, [], ⟨⟨rfl, congrArg AV.int e1, rfl, trivial⟩, ⟨rfl, rfl, rfl, rfl, trivial⟩, rfl, rfl⟩⟩
    · refine bsel_dec (fun hlt => ?_) (fun hge => ?_)
      · (repeat (first | refine gos hn ?_ | refine gor hn ?_ | refine gob hn ?_ | refine goc hn ?_ | refine goe hn ?_ | refine gok hn ?_ | refine got hn ?_))
        rintro _ rfl hlen
        refine COk.ops (goo hn 6 ?_)
        refine Exists.intro [[.int s.cls, .str s.name, .int s.pos, .nilsl]] (And.intro (by repeat (first | exact trivial | exact rfl | (refine And.intro ?_ ?_))) ?_)
        refine And.intro ?_ (Exists.intro (nOut z ++ [[AV.int s.cls, .str s.name, .int s.pos, .nilsl]]) (And.intro (leLs_refl _) ?_))
        · show ((nOut z).length + 1) * 56 ≤ _
          rw [show (nOut z).length = l.length by simp only [nOut, List.length_map]; exact nLen hz]
          exact hf
        have hat : (nOut z ++ [[AV.int s.cls, .str s.name, .int s.pos, .nilsl]])[l.length]? = some [AV.int s.cls, .str s.name, .int s.pos, .nilsl] := by
          rw [List.getElem?_append_right (by simp [nOut, nLen hz])]
          simp [nOut, nLen hz]
        show OOk Try.prog Γ _ _ _ _ _
        refine OOk.gh (Gh.unnil (r := 23) (i := l.length) (off := 3) (j := 104) (j' := 105) (isz := 2) (ie := 29) rfl hat rfl rfl rfl rfl rfl rfl) ?_
        intro _
        refine OOk.done ?_
        have ex : ixd (fun t : Tl => decide (t.site = s)) ⟨s, []⟩ l = (l ++ [⟨s, []⟩], l.length) := by unfold ixd; rw [e2]
        have hlz := nLen hz
        refine ⟨⟨(l.length, ⟨s, []⟩, ⟨none, 0, 0⟩, z ++ [(⟨none, 0, 0⟩, nTl ⟨s, []⟩)]), ?_, ?_, ?_, ?_, ?_⟩, [(102, 23)], ⟨⟨rfl, ?_, rfl, trivial⟩, ⟨?_, ?_, rfl, rfl, trivial⟩, rfl, rfl⟩⟩
        · show (z ++ [_])[l.length]? = _
          rw [List.getElem?_append_right (by omega)]
          simp [hlz]
        · rw [ex]
          show List.map (fun p : Hd × List AV × List (List AV) => p.2) (z ++ [_]) = List.map nTl (l ++ [_])
          rw [List.map_append, List.map_append, hz]
          rfl
        · rw [ex]
          show (l ++ [_])[l.length]? = _
          rw [List.getElem?_append_right (Nat.le_refl _)]
          simp
        · rw [ex]
        · show (0 + 1) * 16 ≤ _
          decide
        · exact congrArg AV.int (by simp [nOut, hlz])
        · refine congrArg (fun q => some (Obj.row 4 q 27)) ?_
          show (nOut z ++ [_]).set l.length _ = nOut (z ++ [_])
          rw [nOut_snoc, List.set_append_right _ _ (by simp [nOut, hlz])]
          simp [nOut, hlz, nTl, preTl]
        · refine congrArg (fun q => some (Obj.pins 2 q 29)) ?_
          show nIn z = (nIn (z ++ [_])).eraseIdx l.length
          rw [nIn_snoc, List.eraseIdx_append_of_length_le (by simp [nIn, hlz])]
          simp [nIn, hlz]
      · rw [e1] at hge; omega
  · intro k; rw [hn]; rfl
  rintro ⟨⟨k, x, h, z⟩, hq1, hq2, hq3, hq4, hq5⟩
  have hq1 : z[k]? = some (h, nTl x) := hq1
  have hkz : k < (nOut z).length := by
    have := (List.getElem?_eq_some_iff.1 hq1).1
    simpa [nOut] using this
  have hat : (nOut z)[k]? = some (preTl x ++ [.con h.v]) := by simp [nOut, hq1, nTl]
  (repeat (first | refine gos hn ?_ | refine gor hn ?_ | refine gob hn ?_ | refine goc hn ?_ | refine goe hn ?_ | refine gok hn ?_ | refine got hn ?_))
  refine And.intro (by omega) (And.intro (by simpa using hkz) ?_)
  refine And.intro (by simpa using hkz) (fun cs hcs => ?_)
  have hcs : (nOut z)[k]? = some cs := hcs
  obtain rfl : cs = preTl x ++ [.con h.v] := Option.some.inj (hcs.symm.trans hat)
  refine And.intro rfl ?_
  show CallOk Try.prog _ _ _ _
  refine CallOk.lend (slices_IndexFunc_api_Line_api_Line_c1_ok N x.classes (fun x => tally_Add_2 N x c) (fun x y hy => tally_Add_2_ok N x c y hy) _ (ixL N c x.classes)) (leAs_of_eq rfl) rfl ?_
  refine COk.cut (ι := { q : Nat × Ln × Hd × List Ln // q.2.2.2 = (ixd (fun y => decide (y.cls = c)) ⟨c, 0⟩ x.classes).1 ∧ (ixd (fun y => decide (y.cls = c)) ⟨c, 0⟩ x.classes).2 = q.1 ∧ q.2.2.2[q.1]? = some q.2.1 })
    (fun q => [(7, .own 102), (8, .int k), (9, .int q.1.1)]) (fun q => [(102, .row 4 ((nOut z).set k (preTl x ++ [.con q.1.2.2.1.v])) 27), (103, .pins 2 ((nIn z).eraseIdx k) 29), (104, .row 2 (q.1.2.2.2.map eLn) 29), (105, .eqv 104 q.1.2.2.1.v)]) ?_ ?_ ?_
  · (repeat (first | refine gos hn ?_ | refine gor hn ?_ | refine gob hn ?_ | refine goc hn ?_ | refine goe hn ?_ | refine gok hn ?_ | refine got hn ?_))
    rcases ixf_way (fun y : Ln => decide (y.cls = c)) x.classes with ⟨j, y, e1, e2, e3, e4⟩ | ⟨e1, e2⟩
    · refine bsel_dec (fun hlt => ?_) (fun hge => ?_)
      · rw [e1] at hlt; omega
      · refine gok hn ?_
        have ex : ixd (fun y : Ln => decide (y.cls = c)) ⟨c, 0⟩ x.classes = (x.classes, j) := by unfold ixd; rw [e4]
        refine ⟨⟨(j, y, h, x.classes), by rw [ex], by rw [ex], e2⟩, [], ⟨⟨rfl, rfl, congrArg AV.int e1, trivial⟩, ⟨?_, rfl, rfl, rfl, trivial⟩, rfl, rfl⟩⟩
        refine congrArg (fun q => some (Obj.row 4 q 27)) ?_
        show nOut z = (nOut z).set k _
        exact (set_same_ hat).symm
    · refine bsel_dec (fun hlt => ?_) (fun hge => ?_)
      · (repeat (first | refine gos hn ?_ | refine gor hn ?_ | refine gob hn ?_ | refine goc hn ?_ | refine goe hn ?_ | refine gok hn ?_ | refine got hn ?_))
        refine And.intro (by omega) (And.intro (by simpa using hkz) ?_)
        refine And.intro (by simpa using hkz) (fun cs hcs => ?_)
        have hcs : (nOut z)[k]? = some cs := hcs
        obtain rfl : cs = preTl x ++ [.con h.v] := Option.some.inj (hcs.symm.trans hat)
        refine And.intro rfl ?_
        rintro _ rfl hlen2
        refine COk.snoc (god hn (by kernel_rfl) ?_)
        refine And.intro (by omega) (And.intro (by simpa using hkz) ?_)
        refine And.intro (by simpa using hkz) (fun cs hcs => ?_)
        have hcs : (nOut z)[k]? = some cs := hcs
        obtain rfl : cs = preTl x ++ [.con h.v] := Option.some.inj (hcs.symm.trans hat)
        refine And.intro rfl ?_
        refine Exists.intro (List.map eLn [⟨c, 0⟩]) (And.intro (by repeat (first | exact trivial | exact rfl | (refine And.intro ?_ ?_))) ?_)
        refine And.intro ?_ (Exists.intro (List.map eLn (x.classes ++ [⟨c, 0⟩])) (And.intro (leLs_map (leLs_refl _)) ?_))
        · show ((x.classes.map eLn).length + 1) * 16 ≤ _
          rw [List.length_map]
          exact hq5
        refine And.intro (by omega) (And.intro (by simpa using hkz) ?_)
        refine And.intro (by simpa using hkz) (And.intro ?_ ?_)
        · intro cs hcs
          have hcs : (nOut z)[k]? = some cs := hcs
          obtain rfl : cs = preTl x ++ [.con h.v] := Option.some.inj (hcs.symm.trans hat)
          show 3 < 4
          omega
        show EOk Γ _ _ _
        refine EOk.gh (Gh.rowx 102 106 rfl rfl rfl (fun _ => rfl) rfl) (fun g => ?_)
        refine EOk.done ?_
        have ex : ixd (fun y : Ln => decide (y.cls = c)) ⟨c, 0⟩ x.classes = (x.classes ++ [⟨c, 0⟩], x.classes.length) := by unfold ixd; rw [e2]
        refine ⟨⟨(x.classes.length, ⟨c, 0⟩, g, x.classes ++ [⟨c, 0⟩]), by rw [ex], by rw [ex], by simp⟩, [(104, 49), (105, 106)], ⟨⟨rfl, rfl, ?_, trivial⟩, ⟨?_, rfl, rfl, rfl, trivial⟩, rfl, rfl⟩⟩
        · exact congrArg AV.int (by simp)
        · refine congrArg (fun q => some (Obj.row 4 q 27)) ?_
          show patch (nOut z) k 3 (.con g.v) = (nOut z).set k _
          unfold patch
          rw [hat]
          rfl
      · rw [e1] at hge; omega
  · intro k; rw [hn]; rfl
  rintro ⟨⟨j, y, h', ys⟩, hj1, hj2, hj3⟩
  have hat2 : ((nOut z).set k (preTl x ++ [.con h'.v]))[k]? = some (preTl x ++ [.con h'.v]) := by rw [List.getElem?_set, if_pos rfl, if_pos hkz]
  have hj3 : ys[j]? = some y := hj3
  have hjl : j < ys.length := (List.getElem?_eq_some_iff.1 hj3).1
  have hat3 : (ys.map eLn)[j]? = some (eLn y) := by simp [hj3]
  (repeat (first | refine gos hn ?_ | refine gor hn ?_ | refine gob hn ?_ | refine goc hn ?_ | refine goe hn ?_ | refine gok hn ?_ | refine got hn ?_))
  refine And.intro (by omega) (And.intro (by simpa using hkz) ?_)
  refine And.intro (by simpa using hkz) (fun cs hcs => ?_)
  have hcs : ((nOut z).set k (preTl x ++ [.con h'.v]))[k]? = some cs := hcs
  obtain rfl : cs = preTl x ++ [.con h'.v] := Option.some.inj (Eq.trans (Eq.symm hcs) hat2)
  refine And.intro rfl ?_
  refine And.intro (by omega) (And.intro (by simpa using hjl) ?_)
  refine And.intro (by simpa using hjl) (fun cs2 hcs2 => ?_)
  have hcs2 : (ys.map eLn)[j]? = some cs2 := hcs2
  obtain rfl : cs2 = eLn y := Option.some.inj (Eq.trans (Eq.symm hcs2) hat3)
  refine Or.inr ?_
  refine And.intro (by omega) (And.intro (by simpa using hjl) ?_)
  have hzk : k < z.length := (List.getElem?_eq_some_iff.1 hq1).1
  have hys : ys.set j ⟨y.cls, wr (y.found + 1)⟩ = addL c x.classes := by
    have h1 : ys = (ixd (fun y => decide (y.cls = c)) ⟨c, 0⟩ x.classes).1 := hj1
    have h2 : (ixd (fun y => decide (y.cls = c)) ⟨c, 0⟩ x.classes).2 = j := hj2
    unfold addL
    simp only
    rw [h2, ← h1, set_modify hj3]
  refine And.intro (by simpa using hjl) (fun cs3 hcs3 => ?_)
  have hcs3 : (ys.map eLn)[j]? = some cs3 := hcs3
  obtain rfl : cs3 = eLn y := Option.some.inj (Eq.trans (Eq.symm hcs3) hat3)
  refine Exists.intro (List.map eLn (addL c x.classes)) (And.intro (by rw [← hys]; exact leLs_set hj3 (by repeat (first | exact trivial | exact rfl | (refine And.intro ?_ ?_)))) ?_)
  have hp : (nIn (z.set k (h', preTl x, (addL c x.classes).map eLn))).Perm ((h', (addL c x.classes).map eLn) :: (nIn z).eraseIdx k) := by
    rw [show nIn (z.set k (h', preTl x, (addL c x.classes).map eLn)) = (nIn z).set k (h', (addL c x.classes).map eLn) by simp [nIn, List.map_set]]
    exact set_perm (by simpa [nIn] using hzk)
  show COk Try.prog Γ _ _ _ _
  refine COk.gh (Gh.repin (h := h') (ls := (addL c x.classes).map eLn) (l' := nIn (z.set k (h', preTl x, (addL c x.classes).map eLn))) 104 105 103 rfl rfl rfl hp rfl rfl rfl) (fun _ => ?_)
  have hz2 : (z.set k (h', preTl x, (addL c x.classes).map eLn)).map (·.2) = (addT s c l).map nTl := by
    have h2 : (ixd (fun t => decide (t.site = s)) ⟨s, []⟩ l).2 = k := hq4
    have h3 : z.map (·.2) = (ixd (fun t => decide (t.site = s)) ⟨s, []⟩ l).1.map nTl := hq2
    have h4 : (ixd (fun t => decide (t.site = s)) ⟨s, []⟩ l).1[k]? = some x := hq3
    unfold addT
    simp only
    rw [h2, set_modify h4, List.map_set, List.map_set, h3]
    rfl
  refine COk.gh (Gh.close 7 102 103 107 (z.set k (h', preTl x, (addL c x.classes).map eLn)) rfl rfl rfl (by show (nOut z).set k _ = _; simp [nOut, List.map_set]) rfl hz2 rfl rfl rfl rfl rfl) (fun _ => ?_)
  show COk Try.prog Γ _ _ _ _
  refine COk.flat 7 107 108 rfl rfl rfl rfl rfl ?_
  rw [nFlat_Tl]
  (repeat (first | refine gos hn ?_ | refine gor hn ?_ | refine gob hn ?_ | refine goc hn ?_ | refine goe hn ?_ | refine gok hn ?_ | refine got hn ?_))
  exact ⟨[(0, 108)], _, rfl, rfl, ⟨rfl, trivial⟩, rfl, rfl, rfl, rfl, rfl⟩

/- tally.All -/
set_option maxRecDepth 100000 in
set_option maxHeartbeats 1000000 in
theorem tally_All_ok (N : Nat) (a0 : (List Tl)) (a1 : St) (r : Int) (h : tally_All N a0 a1 = some r) : Spec Try.prog 20 [] [.sl 4 (List.map eTl a0), .agg (eSt a1)] (.int r) [] [] := by
  refine Spec.of tabOk Try.func20 rfl Try.ntmps20 (by kernel_rfl) rfl rfl rfl fun Γ hn => ?_
  unfold tally_All at h
  refine COk.seqQ fun Q483 qn483 qx483 qr483 => ?_
  refine gor hn ?_
  refine qn483 _ _ ?_
  refine COk.seqQ fun Q484 qn484 qx484 qr484 => ?_
  refine gor hn ?_
  refine qn484 _ _ ?_
  refine COk.seqQ fun Q485 qn485 qx485 qr485 => ?_
  refine COk.seqQ fun Q486 qn486 qx486 qr486 => ?_
  refine gor hn ?_
  refine lenM (fun hl1 => ?_)
  refine qn486 _ _ ?_
  obtain ⟨o6, h7, h⟩ := bindM h
  refine COk.joinR (ι := { s : Int // o6 = s }) (fun s => [(5, .int s.1)]) (fun s => []) (fun Q841 qn841 qx841 qr841 => ?_) (by intro s; rw [hn]; rfl) ?_
  · refine COk.blkQ fun Q842 qn842 qe842 qx842 qr842 => ?_
    refine COk.loopQ (ι := { q : ((List Tl) × Nat × Int) // q.1 = a0.drop q.2.1 ∧ tally_All_l1 N a1 q.1 q.2.1 q.2.2 = some o6 }) (fun q => [(3, .ptr 3 0), (5, .int q.1.2.2), (10, .sl 4 (List.map eTl a0)), (11, .int (a0.length : Int)), (12, .int (q.1.2.1 : Int))]) (fun q => [(3, .box (eSt a1) 24)]) (fun q => q.1.1.length) ⟨(a0, 0, (0 : Int)), rfl, h7⟩ [] ⟨⟨rfl, rfl, (by repeat (first | exact trivial | exact rfl | (refine And.intro ?_ ?_))), rfl, rfl, trivial⟩, ⟨rfl, trivial⟩, rfl, rfl⟩ (by intro q; rw [hn]; rfl) ?_
    rintro ⟨⟨rest_, k2, v3⟩, hd9, h7⟩ Q843 qn843 qx843 qr843
    replace hd9 : rest_ = a0.drop k2 := hd9
    rcases rest_ with _ | ⟨x11, rest8⟩
    · have hlt13 := restNil hd9
      replace h7 := (tally_All_l1.eq_1 _ _ _ _).symm.trans h7
      refine COk.seqQ fun Q844 qn844 qx844 qr844 => ?_
      refine gor hn ?_
      refine qn844 _ _ ?_
      refine COk.seqQ fun Q845 qn845 qx845 qr845 => ?_
      refine goc hn ?_
      refine bselF hlt13 ?_
      refine goe hn ?_
      refine qx845 _ _ _ ?_
      refine qx843 _ _ _ ?_
      refine qe842 _ _ ?_
      refine qn841 _ _ ?_
      obtain rfl := Option.some.inj h7
      refine EOk.done ?_
      exact ⟨⟨_, rfl⟩, [], trivial, ⟨⟨rfl, trivial⟩, trivial, rfl, rfl⟩⟩
    · obtain ⟨hx12, hd2, hlt13⟩ := restCons hd9
      replace h7 := (tally_All_l1.eq_2 _ _ _ _ _ _).symm.trans h7
      refine COk.seqQ fun Q846 qn846 qx846 qr846 => ?_
      refine gor hn ?_
      refine qn846 _ _ ?_
      refine COk.seqQ fun Q847 qn847 qx847 qr847 => ?_
      refine goc hn ?_
      refine bselT hlt13 ?_
      refine gok hn ?_
      refine qn847 _ _ ?_
      refine COk.seqQ fun Q848 qn848 qx848 qr848 => ?_
      obtain ⟨o16, h15, h7⟩ := bindM h7
      refine COk.joinR (ι := { s : Int // o16 = s }) (fun s => [(3, .ptr 3 0), (5, .int s.1), (10, .sl 4 (List.map eTl a0)), (11, .int (a0.length : Int)), (12, .int (k2 : Int))]) (fun s => [(3, .box (eSt a1) 24)]) (fun Q925 qn925 qx925 qr925 => ?_) (by intro s; rw [hn]; rfl) ?_
      · refine COk.blkQ fun Q926 qn926 qe926 qx926 qr926 => ?_
        refine COk.seqQ fun Q927 qn927 qx927 qr927 => ?_
        refine gor hn ?_
        refine idxK hx12 ?_
        refine qn927 _ _ ?_
        refine COk.seqQ fun Q928 qn928 qx928 qr928 => ?_
        refine COk.seqQ fun Q929 qn929 qx929 qr929 => ?_
        refine gor hn ?_
        refine qn929 _ _ ?_
        refine goc hn ?_
        refine bselM h15 (fun hb17 h15 => ?_) (fun hb17 h15 => ?_)
        · refine goe hn ?_
          refine qx928 _ _ _ ?_
          refine qe926 _ _ ?_
          refine qn925 _ _ ?_
          obtain rfl := Option.some.inj h15
          refine EOk.done ?_
          exact ⟨⟨_, rfl⟩, [], trivial, ⟨⟨rfl, rfl, (by repeat (first | exact trivial | exact rfl | (refine And.intro ?_ ?_))), rfl, rfl, trivial⟩, ⟨rfl, trivial⟩, rfl, rfl⟩⟩
        · refine gok hn ?_
          refine qn928 _ _ ?_
          refine COk.seqQ fun Q930 qn930 qx930 qr930 => ?_
          refine gor hn ?_
          refine lenM (fun hl18 => ?_)
          refine qn930 _ _ ?_
          obtain ⟨o23, h24, h15⟩ := bindM h15
          refine COk.joinR (ι := { s : Int // o23 = s }) (fun s => [(3, .ptr 3 0), (5, .int s.1), (10, .sl 4 (List.map eTl a0)), (11, .int (a0.length : Int)), (12, .int (k2 : Int))]) (fun s => [(3, .box (eSt a1) 24)]) (fun Q952 qn952 qx952 qr952 => ?_) (by intro s; rw [hn]; rfl) ?_
          · refine COk.blkQ fun Q953 qn953 qe953 qx953 qr953 => ?_
            refine COk.loopQ (ι := { q : ((List Ln) × Nat × Int) // q.1 = x11.classes.drop q.2.1 ∧ tally_All_l2 N q.1 q.2.1 q.2.2 = some o23 }) (fun q => [(3, .ptr 3 0), (5, .int q.1.2.2), (10, .sl 4 (List.map eTl a0)), (11, .int (a0.length : Int)), (12, .int (k2 : Int)), (21, .sl 2 (List.map eLn x11.classes)), (22, .int (x11.classes.length : Int)), (23, .int (q.1.2.1 : Int))]) (fun q => [(3, .box (eSt a1) 24)]) (fun q => q.1.1.length) ⟨(x11.classes, 0, v3), rfl, h24⟩ [] ⟨⟨rfl, rfl, (by repeat (first | exact trivial | exact rfl | (refine And.intro ?_ ?_))), rfl, rfl, (by repeat (first | exact trivial | exact rfl | (refine And.intro ?_ ?_))), rfl, rfl, trivial⟩, ⟨rfl, trivial⟩, rfl, rfl⟩ (by intro q; rw [hn]; rfl) ?_
            rintro ⟨⟨rest_, k19, v20⟩, hd26, h24⟩ Q954 qn954 qx954 qr954
            replace hd26 : rest_ = x11.classes.drop k19 := hd26
            rcases rest_ with _ | ⟨x28, rest25⟩
            · have hlt30 := restNil hd26
              replace h24 := (tally_All_l2.eq_1 _ _ _).symm.trans h24
              refine COk.seqQ fun Q955 qn955 qx955 qr955 => ?_
              refine gor hn ?_
              refine qn955 _ _ ?_
              refine COk.seqQ fun Q956 qn956 qx956 qr956 => ?_
              refine goc hn ?_
              refine bselF hlt30 ?_
              refine goe hn ?_
              refine qx956 _ _ _ ?_
              refine qx954 _ _ _ ?_
              refine qe953 _ _ ?_
              refine qn952 _ _ ?_
              obtain rfl := Option.some.inj h24
              refine EOk.done ?_
              exact ⟨⟨_, rfl⟩, [], trivial, ⟨⟨rfl, rfl, (by repeat (first | exact trivial | exact rfl | (refine And.intro ?_ ?_))), rfl, rfl, trivial⟩, ⟨rfl, trivial⟩, rfl, rfl⟩⟩
            · obtain ⟨hx29, hd2, hlt30⟩ := restCons hd26
              replace h24 := (tally_All_l2.eq_2 _ _ _ _ _).symm.trans h24
              refine COk.seqQ fun Q957 qn957 qx957 qr957 => ?_
              refine gor hn ?_
              refine qn957 _ _ ?_
              refine COk.seqQ fun Q958 qn958 qx958 qr958 => ?_
              refine goc hn ?_
              refine bselT hlt30 ?_
              refine gok hn ?_
              refine qn958 _ _ ?_
              refine COk.seqQ fun Q959 qn959 qx959 qr959 => ?_
              refine COk.blkQ fun Q962 qn962 qe962 qx962 qr962 => ?_
              refine COk.seqQ fun Q963 qn963 qx963 qr963 => ?_
              refine gor hn ?_
              refine idxK hx29 ?_
              refine qn963 _ _ ?_
              refine gor hn ?_
              refine Or.inr ?_
              refine qn962 _ _ ?_
              refine qn959 _ _ ?_
              refine gor hn ?_
              refine Or.inl (And.intro (inrK hx29 hl18) ?_)
              refine qn954 _ _ ?_
              refine EOk.done ?_
              exact ⟨⟨(rest25, k19 + 1, (wr (v20 + x28.found))), hd2, h24⟩, [], by show rest25.length < rest25.length + 1; omega, ⟨⟨rfl, rfl, (by repeat (first | exact trivial | exact rfl | (refine And.intro ?_ ?_))), rfl, rfl, (by repeat (first | exact trivial | exact rfl | (refine And.intro ?_ ?_))), rfl, rfl, trivial⟩, ⟨rfl, trivial⟩, rfl, rfl⟩⟩
          rintro ⟨v22, hv_⟩
          replace hv_ := hv_.symm
          subst hv_
          refine qn926 _ _ ?_
          refine qn925 _ _ ?_
          obtain rfl := Option.some.inj h15
          refine EOk.done ?_
          exact ⟨⟨_, rfl⟩, [], trivial, ⟨⟨rfl, rfl, (by repeat (first | exact trivial | exact rfl | (refine And.intro ?_ ?_))), rfl, rfl, trivial⟩, ⟨rfl, trivial⟩, rfl, rfl⟩⟩
      rintro ⟨v14, hv_⟩
      replace hv_ := hv_.symm
      subst hv_
      refine qn848 _ _ ?_
      refine gor hn ?_
      refine Or.inl (And.intro (inrK hx12 hl1) ?_)
      refine qn843 _ _ ?_
      refine EOk.done ?_
      exact ⟨⟨(rest8, k2 + 1, v14), hd2, h7⟩, [], by show rest8.length < rest8.length + 1; omega, ⟨⟨rfl, rfl, (by repeat (first | exact trivial | exact rfl | (refine And.intro ?_ ?_))), rfl, rfl, trivial⟩, ⟨rfl, trivial⟩, rfl, rfl⟩⟩
  rintro ⟨v5, hv_⟩
  replace hv_ := hv_.symm
  subst hv_
  refine qn485 _ _ ?_
  refine COk.seqQ fun Q964 qn964 qx964 qr964 => ?_
  refine gor hn ?_
  refine qn964 _ _ ?_
  refine got hn ?_
  obtain rfl := Option.some.inj h
  exact ⟨[], _, rfl, (by repeat (first | exact trivial | exact rfl | (refine And.intro ?_ ?_))), trivial, rfl, rfl, rfl, rfl, rfl⟩
end Go.Proofs.Ytioalgofaiideaa
