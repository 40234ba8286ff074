/- Walks after the mirrors. Printed by mir.py. -/
import Derived.Test.YtioalgofaiideaaWk7
namespace Go.Proofs.Ytioalgofaiideaa
open Go.RowKit
set_option linter.unusedVariables false
/- qcref1.Next -/
set_option maxRecDepth 100000 in
set_option maxHeartbeats 1000000 in
theorem qcref1_Next_ok (N : Nat) (a0 : Ins) (a1 : Int) (r : (Int × Int × (List Int))) (h : qcref1_Next N a0 a1 = some r) : Spec Try.prog 53 [] [.agg (eIns a0), .int a1] (.tup [.int r.1, .int r.2.1, .own 0]) [(0, .row 1 (List.map eInt r.2.2) 3)] [0] := by
  refine Spec.of tabOk Try.func53 rfl Try.ntmps53 (by kernel_rfl) rfl rfl rfl fun Γ hn => ?_
  unfold qcref1_Next at h
  refine COk.seqQ fun Q401 qn401 qx401 qr401 => ?_
  refine gor hn ?_
  refine qn401 _ _ ?_
  refine COk.seqQ fun Q402 qn402 qx402 qr402 => ?_
  refine COk.seqQ fun Q403 qn403 qx403 qr403 => ?_
  refine gor hn ?_
  refine qn403 _ _ ?_
  refine COk.blkQ fun Q602 qn602 qe602 qx602 qr602 => ?_
  refine COk.seqQ fun Q603 qn603 qx603 qr603 => ?_
  refine COk.seqQ fun Q604 qn604 qx604 qr604 => ?_
  refine gor hn ?_
  refine qn604 _ _ ?_
  obtain ⟨o3, h2, h⟩ := bindM h
  refine COk.joinR (ι := { s : Bool // o3 = s }) (fun s => [(1, .int a1), (2, .ptr 2 0), (8, .int a0.op), (9, .bool s.1)]) (fun s => [(2, .box (eIns a0) 81)]) (fun Q609 qn609 qx609 qr609 => ?_) (by intro s; rw [hn]; rfl) ?_
  · refine goc hn ?_
    refine bselM h2 (fun hb4 h2 => ?_) (fun hb4 h2 => ?_)
    · refine gok hn ?_
      refine qn609 _ _ ?_
      obtain rfl := Option.some.inj h2
      refine EOk.done ?_
      exact ⟨⟨_, rfl⟩, [], trivial, ⟨⟨rfl, rfl, rfl, rfl, trivial⟩, ⟨rfl, trivial⟩, rfl, rfl⟩⟩
    · refine COk.seqQ fun Q610 qn610 qx610 qr610 => ?_
      refine gor hn ?_
      refine qn610 _ _ ?_
      obtain ⟨o7, h6, h2⟩ := bindM h2
      refine COk.joinR (ι := { s : Bool // o7 = s }) (fun s => [(1, .int a1), (2, .ptr 2 0), (8, .int a0.op), (9, .bool s.1)]) (fun s => [(2, .box (eIns a0) 81)]) (fun Q611 qn611 qx611 qr611 => ?_) (by intro s; rw [hn]; rfl) ?_
      · refine goc hn ?_
        refine bselM h6 (fun hb8 h6 => ?_) (fun hb8 h6 => ?_)
        · refine gok hn ?_
          refine qn611 _ _ ?_
          obtain rfl := Option.some.inj h6
          refine EOk.done ?_
          exact ⟨⟨_, rfl⟩, [], trivial, ⟨⟨rfl, rfl, rfl, rfl, trivial⟩, ⟨rfl, trivial⟩, rfl, rfl⟩⟩
        · refine gor hn ?_
          refine qn611 _ _ ?_
          obtain rfl := Option.some.inj h6
          refine EOk.done ?_
          exact ⟨⟨_, rfl⟩, [], trivial, ⟨⟨rfl, rfl, rfl, rfl, trivial⟩, ⟨rfl, trivial⟩, rfl, rfl⟩⟩
      rintro ⟨v5, hv_⟩
      replace hv_ := hv_.symm
      subst hv_
      refine qn609 _ _ ?_
      obtain rfl := Option.some.inj h2
      refine EOk.done ?_
      exact ⟨⟨_, rfl⟩, [], trivial, ⟨⟨rfl, rfl, rfl, rfl, trivial⟩, ⟨rfl, trivial⟩, rfl, rfl⟩⟩
  rintro ⟨v1, hv_⟩
  replace hv_ := hv_.symm
  subst hv_
  refine qn603 _ _ ?_
  refine goc hn ?_
  refine bselM h (fun hb9 h => ?_) (fun hb9 h => ?_)
  · refine COk.seqQ fun Q706 qn706 qx706 qr706 => ?_
    refine gor hn ?_
    refine Or.inr ?_
    refine Exists.intro (List.map eInt [(wr (a1 + (1 : Int)))]) (And.intro (by repeat (first | exact trivial | exact rfl | (refine And.intro ?_ ?_))) ?_)
    refine qn706 _ _ ?_
    refine got hn ?_
    refine qr602 _ _ ?_
    refine qr402 _ _ ?_
    obtain rfl := Option.some.inj h
    exact ⟨[(0, 15)], _, rfl, (by repeat (first | exact trivial | exact rfl | (refine And.intro ?_ ?_))), ⟨rfl, trivial⟩, rfl, rfl, rfl, rfl, rfl⟩
  · refine COk.seqQ fun Q707 qn707 qx707 qr707 => ?_
    refine gor hn ?_
    refine qn707 _ _ ?_
    refine goc hn ?_
    refine bselM h (fun hb10 h => ?_) (fun hb10 h => ?_)
    · refine COk.seqQ fun Q754 qn754 qx754 qr754 => ?_
      refine gor hn ?_
      refine Or.inr ?_
      refine Exists.intro (List.map eInt [(wr (a1 + (1 : Int)))]) (And.intro (by repeat (first | exact trivial | exact rfl | (refine And.intro ?_ ?_))) ?_)
      refine qn754 _ _ ?_
      refine got hn ?_
      refine qr602 _ _ ?_
      refine qr402 _ _ ?_
      obtain rfl := Option.some.inj h
      exact ⟨[(0, 20)], _, rfl, (by repeat (first | exact trivial | exact rfl | (refine And.intro ?_ ?_))), ⟨rfl, trivial⟩, rfl, rfl, rfl, rfl, rfl⟩
    · refine COk.seqQ fun Q755 qn755 qx755 qr755 => ?_
      refine gor hn ?_
      refine qn755 _ _ ?_
      refine goc hn ?_
      refine bselM h (fun hb11 h => ?_) (fun hb11 h => ?_)
      · refine COk.seqQ fun Q778 qn778 qx778 qr778 => ?_
        refine god hn (by kernel_rfl) ?_
        refine Or.inr ?_
        obtain ⟨hg12, h⟩ := guardM h
        refine decM hg12 ?_
        refine Or.inr ?_
        refine Exists.intro (List.map eInt [(wr (a1 + (1 : Int)))]) (And.intro (by repeat (first | exact trivial | exact rfl | (refine And.intro ?_ ?_))) ?_)
        refine qn778 _ _ ?_
        refine got hn ?_
        refine qr602 _ _ ?_
        refine qr402 _ _ ?_
        obtain rfl := Option.some.inj h
        exact ⟨[(0, 31)], _, rfl, (by repeat (first | exact trivial | exact rfl | (refine And.intro ?_ ?_))), ⟨rfl, trivial⟩, rfl, rfl, rfl, rfl, rfl⟩
      · refine COk.seqQ fun Q779 qn779 qx779 qr779 => ?_
        refine gor hn ?_
        refine qn779 _ _ ?_
        refine goc hn ?_
        refine bselM h (fun hb13 h => ?_) (fun hb13 h => ?_)
        · refine COk.seqQ fun Q790 qn790 qx790 qr790 => ?_
          refine god hn (by kernel_rfl) ?_
          refine Exists.intro (List.map eInt [a0.a]) (And.intro (by repeat (first | exact trivial | exact rfl | (refine And.intro ?_ ?_))) ?_)
          refine qn790 _ _ ?_
          refine got hn ?_
          refine qr602 _ _ ?_
          refine qr402 _ _ ?_
          obtain rfl := Option.some.inj h
          exact ⟨[(0, 36)], _, rfl, (by repeat (first | exact trivial | exact rfl | (refine And.intro ?_ ?_))), ⟨rfl, trivial⟩, rfl, rfl, rfl, rfl, rfl⟩
        · refine COk.seqQ fun Q791 qn791 qx791 qr791 => ?_
          refine gor hn ?_
          refine qn791 _ _ ?_
          refine goc hn ?_
          refine bselM h (fun hb14 h => ?_) (fun hb14 h => ?_)
          · refine COk.seqQ fun Q796 qn796 qx796 qr796 => ?_
            refine god hn (by kernel_rfl) ?_
            refine Or.inr ?_
            refine Exists.intro (List.map eInt [(wr (a1 + (1 : Int))), a0.a]) (And.intro (by repeat (first | exact trivial | exact rfl | (refine And.intro ?_ ?_))) ?_)
            refine qn796 _ _ ?_
            refine got hn ?_
            refine qr602 _ _ ?_
            refine qr402 _ _ ?_
            obtain rfl := Option.some.inj h
            exact ⟨[(0, 43)], _, rfl, (by repeat (first | exact trivial | exact rfl | (refine And.intro ?_ ?_))), ⟨rfl, trivial⟩, rfl, rfl, rfl, rfl, rfl⟩
          · refine COk.seqQ fun Q797 qn797 qx797 qr797 => ?_
            refine gor hn ?_
            refine qn797 _ _ ?_
            refine goc hn ?_
            refine bselM h (fun hb15 h => ?_) (fun hb15 h => ?_)
            · refine COk.seqQ fun Q799 qn799 qx799 qr799 => ?_
              refine gor hn ?_
              refine qn799 _ _ ?_
              refine COk.nilrow 6 206 1 3 rfl rfl rfl ?_
              refine got hn ?_
              refine qr602 _ _ ?_
              refine qr402 _ _ ?_
              obtain rfl := Option.some.inj h
              exact ⟨[(0, 206)], _, rfl, (by repeat (first | exact trivial | exact rfl | (refine And.intro ?_ ?_))), ⟨rfl, trivial⟩, rfl, rfl, rfl, rfl, rfl⟩
            · refine gok hn ?_
              refine qn602 _ _ ?_
              refine qn402 _ _ ?_
              refine COk.seqQ fun Q800 qn800 qx800 qr800 => ?_
              refine gor hn ?_
              refine Or.inr ?_
              refine Exists.intro (List.map eInt [(wr (a1 + (1 : Int)))]) (And.intro (by repeat (first | exact trivial | exact rfl | (refine And.intro ?_ ?_))) ?_)
              refine qn800 _ _ ?_
              refine got hn ?_
              obtain rfl := Option.some.inj h
              exact ⟨[(0, 48)], _, rfl, (by repeat (first | exact trivial | exact rfl | (refine And.intro ?_ ?_))), ⟨rfl, trivial⟩, rfl, rfl, rfl, rfl, rfl⟩

/- qcref1.Heights -/
set_option maxRecDepth 100000 in
set_option maxHeartbeats 1000000 in
theorem qcref1_Heights_ok (N : Nat) (a0 : Me) (r : ((List Int) × TFault)) (h : qcref1_Heights N a0 = some r) : Spec Try.prog 51 [] [.agg (eMe a0)] (.tup [.own 0, .agg (eTFault r.2)]) [(0, .row 1 (List.map eInt r.1) 3)] [0] := by
  refine Spec.of tabOk Try.func51 rfl Try.ntmps51 (by kernel_rfl) rfl rfl rfl fun Γ hn => ?_
  unfold qcref1_Heights at h
  refine COk.seqQ fun Q805 qn805 qx805 qr805 => ?_
  refine gor hn ?_
  refine qn805 _ _ ?_
  refine COk.seqQ fun Q806 qn806 qx806 qr806 => ?_
  refine gor hn ?_
  refine lenM (fun hl1 => ?_)
  obtain ⟨hg2, h⟩ := guardM h
  refine mkM (enc := eInt) (x := (0 : Int)) hg2 (by repeat (first | exact trivial | exact rfl | (refine And.intro ?_ ?_))) ?_
  refine qn806 _ _ ?_
  refine COk.seqQ fun Q807 qn807 qx807 qr807 => ?_
  refine COk.seqQ fun Q808 qn808 qx808 qr808 => ?_
  refine gor hn ?_
  refine lenM (fun hl3 => ?_)
  refine qn808 _ _ ?_
  refine COk.rng 21 rfl (fun hrn => ?_)
  obtain ⟨o8, h9, h⟩ := bindM h
  refine COk.joinR (ι := { s : (List Int) // o8 = s }) (fun s => [(1, .ptr 1 0), (3, .ptr 3 0), (4, .own 19)]) (fun s => [(1, .box (eMe a0) 74), (3, .box [.int (0 : Int), .int (0 : Int)] 85), (19, .row 1 (List.map eInt s.1) 3)]) (fun Q830 qn830 qx830 qr830 => ?_) (by intro s; rw [hn]; rfl) ?_
  · refine COk.blkQ fun Q831 qn831 qe831 qx831 qr831 => ?_
    refine COk.loopQ (ι := { q : (Nat × Nat × (List Int)) // q.1 = (((List.replicate (a0.code.length : Int).toNat (0 : Int)).length : Int) - (q.2.1 : Int)).toNat ∧ qcref1_Heights_l1 N q.1 q.2.1 q.2.2 = some o8 }) (fun q => [(1, .ptr 1 0), (3, .ptr 3 0), (4, .own 19), (21, .int ((List.replicate (a0.code.length : Int).toNat (0 : Int)).length : Int)), (22, .int (q.1.2.1 : Int))]) (fun q => [(1, .box (eMe a0) 74), (3, .box [.int (0 : Int), .int (0 : Int)] 85), (19, .row 1 (List.map eInt q.1.2.2) 3)]) (fun q => q.1.1) ⟨((((List.replicate (a0.code.length : Int).toNat (0 : Int)).length : Int) - ((0 : Nat) : Int)).toNat, 0, (List.replicate (a0.code.length : Int).toNat (0 : Int))), rfl, h9⟩ [] ⟨⟨rfl, rfl, rfl, rfl, rfl, trivial⟩, ⟨rfl, rfl, rfl, trivial⟩, rfl, rfl⟩ (by intro q; rw [hn]; rfl) ?_
    rintro ⟨⟨n_, k4, v5⟩, hd11, h9⟩ Q832 qn832 qx832 qr832
    replace hd11 : n_ = (((List.replicate (a0.code.length : Int).toNat (0 : Int)).length : Int) - (k4 : Int)).toNat := hd11
    rcases n_ with _ | n12
    · have hlt15 := upNil hd11
      replace h9 := (qcref1_Heights_l1.eq_1 _ _ _).symm.trans h9
      refine COk.seqQ fun Q833 qn833 qx833 qr833 => ?_
      refine gor hn ?_
      refine qn833 _ _ ?_
      refine COk.seqQ fun Q834 qn834 qx834 qr834 => ?_
      refine goc hn ?_
      refine bselF hlt15 ?_
      refine goe hn ?_
      refine qx834 _ _ _ ?_
      refine qx832 _ _ _ ?_
      refine qe831 _ _ ?_
      refine qn830 _ _ ?_
      obtain rfl := Option.some.inj h9
      refine EOk.done ?_
      exact ⟨⟨_, rfl⟩, [], trivial, ⟨⟨rfl, rfl, rfl, trivial⟩, ⟨rfl, rfl, rfl, trivial⟩, rfl, rfl⟩⟩
    · obtain ⟨hd2, hlt15⟩ := upCons hd11
      replace h9 := (qcref1_Heights_l1.eq_2 _ _ _ _).symm.trans h9
      refine COk.seqQ fun Q835 qn835 qx835 qr835 => ?_
      refine gor hn ?_
      refine qn835 _ _ ?_
      refine COk.seqQ fun Q836 qn836 qx836 qr836 => ?_
      refine goc hn ?_
      refine bselT hlt15 ?_
      refine gok hn ?_
      refine qn836 _ _ ?_
      refine COk.seqQ fun Q837 qn837 qx837 qr837 => ?_
      refine COk.blkQ fun Q840 qn840 qe840 qx840 qr840 => ?_
      refine COk.seqQ fun Q841 qn841 qx841 qr841 => ?_
      refine gor hn ?_
      refine qn841 _ _ ?_
      refine gor hn ?_
      obtain ⟨x16, hx17, h9⟩ := bindM h9
      refine ownM hx17 ?_
      refine ldM (nthO_some hx17).2 ?_
      refine Exists.intro (List.map eInt (v5.set ((k4 : Int).toNat) (-1 : Int))) (And.intro (leLs_set (nthO_some hx17).2 (by repeat (first | exact trivial | exact rfl | (refine And.intro ?_ ?_)))) ?_)
      refine qn840 _ _ ?_
      refine qn837 _ _ ?_
      refine gor hn ?_
      refine Or.inl (And.intro (inrU hlt15 hrn) ?_)
      refine qn832 _ _ ?_
      refine EOk.done ?_
      exact ⟨⟨(n12, k4 + 1, (v5.set ((k4 : Int).toNat) (-1 : Int))), hd2, h9⟩, [], by show n12 < n12 + 1; omega, ⟨⟨rfl, rfl, rfl, rfl, rfl, trivial⟩, ⟨rfl, rfl, rfl, trivial⟩, rfl, rfl⟩⟩
  rintro ⟨v7, hv_⟩
  replace hv_ := hv_.symm
  subst hv_
  refine qn807 _ _ ?_
  refine COk.seqQ fun Q842 qn842 qx842 qr842 => ?_
  refine gor hn ?_
  refine Exists.intro (List.map eInt [(0 : Int)]) (And.intro (by repeat (first | exact trivial | exact rfl | (refine And.intro ?_ ?_))) ?_)
  refine Exists.intro (List.map eInt [(0 : Int)]) (And.intro (by repeat (first | exact trivial | exact rfl | (refine And.intro ?_ ?_))) ?_)
  refine qn842 _ _ ?_
  refine COk.seqQ fun Q843 qn843 qx843 qr843 => ?_
  refine COk.seqQ fun Q844 qn844 qx844 qr844 => ?_
  refine gor hn ?_
  refine qn844 _ _ ?_
  obtain ⟨o28, h29, h⟩ := bindM h
  refine COk.joinR (ι := { s : (List Int) // o28 = Ctl.next s }) (fun s => [(3, .ptr 3 0), (4, .own 19)]) (fun s => [(3, .box [.int (0 : Int), .int (0 : Int)] 85), (19, .row 1 (List.map eInt s.1) 3)]) (fun Q1415 qn1415 qx1415 qr1415 => ?_) (by intro s; rw [hn]; rfl) ?_
  · refine COk.blkQ fun Q1416 qn1416 qe1416 qx1416 qr1416 => ?_
    refine COk.loopQ (ι := { q : (Nat × (List Int) × (List Int) × (List Int) × Int) // qcref1_Heights_l2 N a0 q.1 q.2.1 q.2.2.1 q.2.2.2.1 q.2.2.2.2 = some o28 }) (fun q => [(1, .ptr 1 0), (3, .ptr 3 0), (4, .own 19), (6, .own 29), (7, .own 30), (8, .int q.1.2.2.2.2)]) (fun q => [(1, .box (eMe a0) 74), (3, .box [.int (0 : Int), .int (0 : Int)] 85), (19, .row 1 (List.map eInt q.1.2.1) 3), (29, .row 1 (List.map eInt q.1.2.2.1) 3), (30, .row 1 (List.map eInt q.1.2.2.2.1) 3)]) (fun q => q.1.1) ⟨(N, v7, [(0 : Int)], [(0 : Int)], (0 : Int)), h29⟩ [] ⟨⟨rfl, rfl, rfl, rfl, rfl, rfl, trivial⟩, ⟨rfl, rfl, rfl, rfl, rfl, trivial⟩, rfl, rfl⟩ (by intro q; rw [hn]; rfl) ?_
    rintro ⟨⟨n_, v19, v20, v21, v22⟩, h29⟩ Q1417 qn1417 qx1417 qr1417
    rcases n_ with _ | n32
    · rw [qcref1_Heights_l2.eq_1] at h29
      cases h29
    · replace h29 := (qcref1_Heights_l2.eq_2 _ _ _ _ _ _ _).symm.trans h29
      refine COk.seqQ fun Q1418 qn1418 qx1418 qr1418 => ?_
      refine COk.seqQ fun Q1419 qn1419 qx1419 qr1419 => ?_
      refine gor hn ?_
      refine lenM (fun hl33 => ?_)
      refine qn1419 _ _ ?_
      refine goc hn ?_
      refine bselM h29 (fun hb34 h29 => ?_) (fun hb34 h29 => ?_)
      · refine gok hn ?_
        refine qn1418 _ _ ?_
        refine COk.seqQ fun Q1420 qn1420 qx1420 qr1420 => ?_
        obtain ⟨o39, h38, h29⟩ := bindM h29
        refine COk.joinR (ι := { s : ((List Int) × (List Int) × (List Int)) // o39 = Ctl.next s }) (fun s => [(1, .ptr 1 0), (3, .ptr 3 0), (4, .own 19), (6, .own 29), (7, .own 30), (8, .int v22)]) (fun s => [(1, .box (eMe a0) 74), (3, .box [.int (0 : Int), .int (0 : Int)] 85), (19, .row 1 (List.map eInt s.1.1) 3), (29, .row 1 (List.map eInt s.1.2.1) 3), (30, .row 1 (List.map eInt s.1.2.2) 3)]) (fun Q1545 qn1545 qx1545 qr1545 => ?_) (by intro s; rw [hn]; rfl) ?_
        · refine COk.blkQ fun Q1546 qn1546 qe1546 qx1546 qr1546 => ?_
          refine COk.seqQ fun Q1547 qn1547 qx1547 qr1547 => ?_
          refine god hn (by kernel_rfl) ?_
          obtain ⟨x40, hx41, h38⟩ := bindM h38
          refine ownM hx41 ?_
          refine ldM (nthO_some hx41).2 ?_
          obtain ⟨x42, hx43, h38⟩ := bindM h38
          refine ownM hx43 ?_
          refine ldM (nthO_some hx43).2 ?_
          refine qn1547 _ _ ?_
          refine COk.seqQ fun Q1548 qn1548 qx1548 qr1548 => ?_
          refine COk.seqQ fun Q1549 qn1549 qx1549 qr1549 => ?_
          obtain ⟨o46, h45, h38⟩ := bindM h38
          refine COk.joinR (ι := { s : Bool // o46 = s }) (fun s => [(1, .ptr 1 0), (3, .ptr 3 0), (4, .own 19), (6, .own 29), (7, .own 30), (8, .int v22), (9, .int x40), (10, .int x42), (53, .bool s.1)]) (fun s => [(1, .box (eMe a0) 74), (3, .box [.int (0 : Int), .int (0 : Int)] 85), (19, .row 1 (List.map eInt v19) 3), (29, .row 1 (List.map eInt v20) 3), (30, .row 1 (List.map eInt v21) 3)]) (fun Q1550 qn1550 qx1550 qr1550 => ?_) (by intro s; rw [hn]; rfl) ?_
          · refine gor hn ?_
            refine lenM (fun hl47 => ?_)
            refine bselM h45 (fun hb48 h45 => ?_) (fun hb48 h45 => ?_)
            · refine bselT hb48 ?_
              refine bselT hb48 ?_
              refine qn1550 _ _ ?_
              obtain rfl := Option.some.inj h45
              refine EOk.done ?_
              exact ⟨⟨_, rfl⟩, [], trivial, ⟨⟨rfl, rfl, rfl, rfl, rfl, rfl, rfl, rfl, rfl, trivial⟩, ⟨rfl, rfl, rfl, rfl, rfl, trivial⟩, rfl, rfl⟩⟩
            · refine bselF hb48 ?_
              refine bselF hb48 ?_
              refine qn1550 _ _ ?_
              obtain rfl := Option.some.inj h45
              refine EOk.done ?_
              exact ⟨⟨_, rfl⟩, [], trivial, ⟨⟨rfl, rfl, rfl, rfl, rfl, rfl, rfl, rfl, rfl, trivial⟩, ⟨rfl, rfl, rfl, rfl, rfl, trivial⟩, rfl, rfl⟩⟩
          rintro ⟨v44, hv_⟩
          replace hv_ := hv_.symm
          subst hv_
          refine qn1549 _ _ ?_
          refine goc hn ?_
          refine bselM h38 (fun hb49 h38 => ?_) (fun hb49 h38 => ?_)
          · refine COk.seqQ fun Q1552 qn1552 qx1552 qr1552 => ?_
            refine god hn (by kernel_rfl) ?_
            refine lenM (fun hl50 => ?_)
            refine qn1552 _ _ ?_
            refine COk.nilrow 2 202 1 3 rfl rfl rfl ?_
            refine got hn ?_
            refine qr1548 _ _ ?_
            refine qr1546 _ _ ?_
            refine qr1545 _ _ ?_
            refine qr1420 _ _ ?_
            refine qr1417 _ _ ?_
            refine qr1416 _ _ ?_
            refine qr1415 _ _ ?_
            refine qr843 _ _ ?_
            obtain rfl := Option.some.inj h38
            obtain rfl := Option.some.inj h29
            obtain rfl := Option.some.inj h
            exact ⟨[(0, 202)], _, rfl, (by repeat (first | exact trivial | exact rfl | (refine And.intro ?_ ?_))), ⟨rfl, trivial⟩, rfl, rfl, rfl, rfl, rfl⟩
          · refine gok hn ?_
            refine qn1548 _ _ ?_
            refine COk.seqQ fun Q1553 qn1553 qx1553 qr1553 => ?_
            refine COk.seqQ fun Q1554 qn1554 qx1554 qr1554 => ?_
            refine gor hn ?_
            obtain ⟨x51, hx52, h38⟩ := bindM h38
            refine ownM hx52 ?_
            refine ldM (nthO_some hx52).2 ?_
            refine qn1554 _ _ ?_
            refine goc hn ?_
            refine bselM h38 (fun hb53 h38 => ?_) (fun hb53 h38 => ?_)
            · refine COk.seqQ fun Q1559 qn1559 qx1559 qr1559 => ?_
              refine COk.seqQ fun Q1560 qn1560 qx1560 qr1560 => ?_
              refine gor hn ?_
              obtain ⟨x54, hx55, h38⟩ := bindM h38
              refine ownM hx55 ?_
              refine ldM (nthO_some hx55).2 ?_
              refine qn1560 _ _ ?_
              refine goc hn ?_
              refine bselM h38 (fun hb56 h38 => ?_) (fun hb56 h38 => ?_)
              · refine COk.seqQ fun Q1562 qn1562 qx1562 qr1562 => ?_
                refine gor hn ?_
                refine qn1562 _ _ ?_
                refine COk.nilrow 2 202 1 3 rfl rfl rfl ?_
                refine got hn ?_
                refine qr1559 _ _ ?_
                refine qr1553 _ _ ?_
                refine qr1546 _ _ ?_
                refine qr1545 _ _ ?_
                refine qr1420 _ _ ?_
                refine qr1417 _ _ ?_
                refine qr1416 _ _ ?_
                refine qr1415 _ _ ?_
                refine qr843 _ _ ?_
                obtain rfl := Option.some.inj h38
                obtain rfl := Option.some.inj h29
                obtain rfl := Option.some.inj h
                exact ⟨[(0, 202)], _, rfl, (by repeat (first | exact trivial | exact rfl | (refine And.intro ?_ ?_))), ⟨rfl, trivial⟩, rfl, rfl, rfl, rfl, rfl⟩
              · refine gok hn ?_
                refine qn1559 _ _ ?_
                refine goe hn ?_
                refine qx1553 _ _ _ ?_
                refine qe1546 _ _ ?_
                refine qn1545 _ _ ?_
                obtain rfl := Option.some.inj h38
                refine EOk.done ?_
                exact ⟨⟨_, rfl⟩, [], trivial, ⟨⟨rfl, rfl, rfl, rfl, rfl, rfl, trivial⟩, ⟨rfl, rfl, rfl, rfl, rfl, trivial⟩, rfl, rfl⟩⟩
            · refine gok hn ?_
              refine qn1553 _ _ ?_
              refine COk.seqQ fun Q1563 qn1563 qx1563 qr1563 => ?_
              refine gor hn ?_
              obtain ⟨x57, hx58, h38⟩ := bindM h38
              refine ownM hx58 ?_
              refine ldM (nthO_some hx58).2 ?_
              refine Exists.intro (List.map eInt (v19.set x40.toNat x42)) (And.intro (leLs_set (nthO_some hx58).2 (by repeat (first | exact trivial | exact rfl | (refine And.intro ?_ ?_)))) ?_)
              refine qn1563 _ _ ?_
              refine COk.seqQ fun Q1564 qn1564 qx1564 qr1564 => ?_
              refine gor hn ?_
              obtain ⟨x59, hx60, h38⟩ := bindM h38
              refine idxM hx60 ?_
              obtain ⟨r61, hr62, h38⟩ := bindM h38
              show CallOk Try.prog _ _ _ _
              refine CallOk.as ((qcref1_Next_ok N x59 x40 r61 hr62).sw 0 82) (by repeat (first | exact trivial | exact rfl | (refine And.intro ?_ ?_))) trivial rfl ?_
              refine qn1564 _ _ ?_
              refine COk.seqQ fun Q1565 qn1565 qx1565 qr1565 => ?_
              refine COk.seqQ fun Q1566 qn1566 qx1566 qr1566 => ?_
              obtain ⟨o65, h64, h38⟩ := bindM h38
              refine COk.joinR (ι := { s : Bool // o65 = s }) (fun s => [(1, .ptr 1 0), (3, .ptr 3 0), (4, .own 19), (6, .own 29), (7, .own 30), (8, .int v22), (9, .int x40), (10, .int x42), (12, .int r61.2.1), (13, .own 82), (101, .bool s.1)]) (fun s => [(1, .box (eMe a0) 74), (3, .box [.int (0 : Int), .int (0 : Int)] 85), (19, .row 1 (List.map eInt (v19.set x40.toNat x42)) 3), (29, .row 1 (List.map eInt v20) 3), (30, .row 1 (List.map eInt v21) 3), (82, .row 1 (List.map eInt r61.2.2) 3)]) (fun Q1567 qn1567 qx1567 qr1567 => ?_) (by intro s; rw [hn]; rfl) ?_
              · refine gor hn ?_
                refine bselM h64 (fun hb66 h64 => ?_) (fun hb66 h64 => ?_)
                · refine bselT hb66 ?_
                  refine bselT hb66 ?_
                  refine bselT hb66 ?_
                  refine bselT hb66 ?_
                  refine bselT hb66 ?_
                  refine bselT hb66 ?_
                  refine bselT hb66 ?_
                  refine bselT hb66 ?_
                  refine bselT hb66 ?_
                  refine qn1567 _ _ ?_
                  obtain rfl := Option.some.inj h64
                  refine EOk.done ?_
                  exact ⟨⟨_, rfl⟩, [], trivial, ⟨⟨rfl, rfl, rfl, rfl, rfl, rfl, rfl, rfl, rfl, rfl, rfl, trivial⟩, ⟨rfl, rfl, rfl, rfl, rfl, rfl, trivial⟩, rfl, rfl⟩⟩
                · refine bselF hb66 ?_
                  refine bselF hb66 ?_
                  refine bselF hb66 ?_
                  obtain ⟨x67, hx68, h64⟩ := bindM h64
                  refine idxM hx68 ?_
                  refine bselF hb66 ?_
                  refine bselF hb66 ?_
                  refine bselF hb66 ?_
                  refine bselF hb66 ?_
                  refine bselM h64 (fun hb69 h64 => ?_) (fun hb69 h64 => ?_)
                  · refine bselT hb69 ?_
                    refine bselF hb66 ?_
                    refine bselT hb69 ?_
                    refine bselF hb66 ?_
                    refine qn1567 _ _ ?_
                    obtain rfl := Option.some.inj h64
                    refine EOk.done ?_
                    exact ⟨⟨_, rfl⟩, [], trivial, ⟨⟨rfl, rfl, rfl, rfl, rfl, rfl, rfl, rfl, rfl, rfl, rfl, trivial⟩, ⟨rfl, rfl, rfl, rfl, rfl, rfl, trivial⟩, rfl, rfl⟩⟩
                  · refine bselF hb69 ?_
                    refine bselF hb66 ?_
                    refine bselF hb69 ?_
                    refine bselF hb66 ?_
                    refine qn1567 _ _ ?_
                    obtain rfl := Option.some.inj h64
                    refine EOk.done ?_
                    exact ⟨⟨_, rfl⟩, [], trivial, ⟨⟨rfl, rfl, rfl, rfl, rfl, rfl, rfl, rfl, rfl, rfl, rfl, trivial⟩, ⟨rfl, rfl, rfl, rfl, rfl, rfl, trivial⟩, rfl, rfl⟩⟩
              rintro ⟨v63, hv_⟩
              replace hv_ := hv_.symm
              subst hv_
              refine qn1566 _ _ ?_
              refine goc hn ?_
              refine bselM h38 (fun hb70 h38 => ?_) (fun hb70 h38 => ?_)
              · refine COk.seqQ fun Q1569 qn1569 qx1569 qr1569 => ?_
                refine gor hn ?_
                refine qn1569 _ _ ?_
                refine COk.nilrow 2 202 1 3 rfl rfl rfl ?_
                refine got hn ?_
                refine qr1565 _ _ ?_
                refine qr1546 _ _ ?_
                refine qr1545 _ _ ?_
                refine qr1420 _ _ ?_
                refine qr1417 _ _ ?_
                refine qr1416 _ _ ?_
                refine qr1415 _ _ ?_
                refine qr843 _ _ ?_
                obtain rfl := Option.some.inj h38
                obtain rfl := Option.some.inj h29
                obtain rfl := Option.some.inj h
                exact ⟨[(0, 202)], _, rfl, (by repeat (first | exact trivial | exact rfl | (refine And.intro ?_ ?_))), ⟨rfl, trivial⟩, rfl, rfl, rfl, rfl, rfl⟩
              · refine gok hn ?_
                refine qn1565 _ _ ?_
                refine COk.seqQ fun Q1570 qn1570 qx1570 qr1570 => ?_
                refine COk.seqQ fun Q1571 qn1571 qx1571 qr1571 => ?_
                refine gor hn ?_
                refine Or.inr ?_
                refine qn1571 _ _ ?_
                refine goc hn ?_
                refine bselM h38 (fun hb71 h38 => ?_) (fun hb71 h38 => ?_)
                · refine COk.seqQ fun Q1573 qn1573 qx1573 qr1573 => ?_
                  refine gor hn ?_
                  refine qn1573 _ _ ?_
                  refine COk.nilrow 2 202 1 3 rfl rfl rfl ?_
                  refine got hn ?_
                  refine qr1570 _ _ ?_
                  refine qr1546 _ _ ?_
                  refine qr1545 _ _ ?_
                  refine qr1420 _ _ ?_
                  refine qr1417 _ _ ?_
                  refine qr1416 _ _ ?_
                  refine qr1415 _ _ ?_
                  refine qr843 _ _ ?_
                  obtain rfl := Option.some.inj h38
                  obtain rfl := Option.some.inj h29
                  obtain rfl := Option.some.inj h
                  exact ⟨[(0, 202)], _, rfl, (by repeat (first | exact trivial | exact rfl | (refine And.intro ?_ ?_))), ⟨rfl, trivial⟩, rfl, rfl, rfl, rfl, rfl⟩
                · refine gok hn ?_
                  refine qn1570 _ _ ?_
                  refine COk.seqQ fun Q1574 qn1574 qx1574 qr1574 => ?_
                  refine gor hn ?_
                  refine lenM (fun hl72 => ?_)
                  refine qn1574 _ _ ?_
                  obtain ⟨o80, h81, h38⟩ := bindM h38
                  refine COk.joinR (ι := { s : ((List Int) × (List Int)) // o80 = s }) (fun s => [(1, .ptr 1 0), (3, .ptr 3 0), (4, .own 19), (6, .own 29), (7, .own 30), (8, .int v22)]) (fun s => [(1, .box (eMe a0) 74), (3, .box [.int (0 : Int), .int (0 : Int)] 85), (19, .row 1 (List.map eInt (v19.set x40.toNat x42)) 3), (29, .row 1 (List.map eInt s.1.1) 3), (30, .row 1 (List.map eInt s.1.2) 3)]) (fun Q1596 qn1596 qx1596 qr1596 => ?_) (by intro s; rw [hn]; rfl) ?_
                  · refine COk.blkQ fun Q1597 qn1597 qe1597 qx1597 qr1597 => ?_
                    refine COk.loopQ (ι := { q : ((List Int) × Nat × (List Int) × (List Int)) // q.1 = r61.2.2.drop q.2.1 ∧ qcref1_Heights_l3 N x42 r61 q.1 q.2.1 q.2.2.1 q.2.2.2 = some o80 }) (fun q => [(1, .ptr 1 0), (3, .ptr 3 0), (4, .own 19), (6, .own 29), (7, .own 30), (8, .int v22), (10, .int x42), (12, .int r61.2.1), (110, .own 82), (111, .int (r61.2.2.length : Int)), (112, .int (q.1.2.1 : Int))]) (fun q => [(1, .box (eMe a0) 74), (3, .box [.int (0 : Int), .int (0 : Int)] 85), (19, .row 1 (List.map eInt (v19.set x40.toNat x42)) 3), (29, .row 1 (List.map eInt q.1.2.2.1) 3), (30, .row 1 (List.map eInt q.1.2.2.2) 3), (82, .row 1 (List.map eInt r61.2.2) 3)]) (fun q => q.1.1.length) ⟨(r61.2.2, 0, v20, v21), rfl, h81⟩ [] ⟨⟨rfl, rfl, rfl, rfl, rfl, rfl, rfl, rfl, rfl, rfl, rfl, trivial⟩, ⟨rfl, rfl, rfl, rfl, rfl, rfl, trivial⟩, rfl, rfl⟩ (by intro q; rw [hn]; rfl) ?_
                    rintro ⟨⟨rest_, k73, v74, v75⟩, hd83, h81⟩ Q1598 qn1598 qx1598 qr1598
                    replace hd83 : rest_ = r61.2.2.drop k73 := hd83
                    rcases rest_ with _ | ⟨x85, rest82⟩
                    · have hlt87 := restNil hd83
                      replace h81 := (qcref1_Heights_l3.eq_1 _ _ _ _ _ _).symm.trans h81
                      refine COk.seqQ fun Q1599 qn1599 qx1599 qr1599 => ?_
                      refine gor hn ?_
                      refine qn1599 _ _ ?_
                      refine COk.seqQ fun Q1600 qn1600 qx1600 qr1600 => ?_
                      refine goc hn ?_
                      refine bselF hlt87 ?_
                      refine goe hn ?_
                      refine qx1600 _ _ _ ?_
                      refine qx1598 _ _ _ ?_
                      refine qe1597 _ _ ?_
                      refine qn1596 _ _ ?_
                      obtain rfl := Option.some.inj h81
                      refine EOk.done ?_
                      exact ⟨⟨_, rfl⟩, [], trivial, ⟨⟨rfl, rfl, rfl, rfl, rfl, rfl, trivial⟩, ⟨rfl, rfl, rfl, rfl, rfl, trivial⟩, rfl, rfl⟩⟩
                    · obtain ⟨hx86, hd2, hlt87⟩ := restCons hd83
                      replace h81 := (qcref1_Heights_l3.eq_2 _ _ _ _ _ _ _ _).symm.trans h81
                      refine COk.seqQ fun Q1601 qn1601 qx1601 qr1601 => ?_
                      refine gor hn ?_
                      refine qn1601 _ _ ?_
                      refine COk.seqQ fun Q1602 qn1602 qx1602 qr1602 => ?_
                      refine goc hn ?_
                      refine bselT hlt87 ?_
                      refine gok hn ?_
                      refine qn1602 _ _ ?_
                      refine COk.seqQ fun Q1603 qn1603 qx1603 qr1603 => ?_
                      refine COk.blkQ fun Q1606 qn1606 qe1606 qx1606 qr1606 => ?_
                      refine COk.seqQ fun Q1607 qn1607 qx1607 qr1607 => ?_
                      refine gor hn ?_
                      obtain ⟨x88, hx89, h81⟩ := bindM h81
                      refine ownM hx89 ?_
                      refine ldM (nthO_some hx89).2 ?_
                      refine qn1607 _ _ ?_
                      refine gor hn ?_
                      refine Exists.intro (List.map eInt [x88]) (And.intro (by repeat (first | exact trivial | exact rfl | (refine And.intro ?_ ?_))) ?_)
                      obtain ⟨hg90, h81⟩ := guardM h81
                      refine appM (l2 := [x88]) hg90 (leLs_refl _) ?_
                      refine Or.inr ?_
                      refine Exists.intro (List.map eInt [(wr (x42 + r61.2.1))]) (And.intro (by repeat (first | exact trivial | exact rfl | (refine And.intro ?_ ?_))) ?_)
                      obtain ⟨hg91, h81⟩ := guardM h81
                      refine appM (l2 := [(wr (x42 + r61.2.1))]) hg91 (leLs_refl _) ?_
                      refine qn1606 _ _ ?_
                      refine qn1603 _ _ ?_
                      refine gor hn ?_
                      refine Or.inl (And.intro (inrK hx86 hl72) ?_)
                      refine qn1598 _ _ ?_
                      refine EOk.done ?_
                      exact ⟨⟨(rest82, k73 + 1, (v74 ++ [x88]), (v75 ++ [(wr (x42 + r61.2.1))])), hd2, h81⟩, [(29, 119), (30, 125)], by show rest82.length < rest82.length + 1; omega, ⟨⟨rfl, rfl, rfl, rfl, rfl, rfl, rfl, rfl, rfl, rfl, rfl, trivial⟩, ⟨rfl, rfl, rfl, rfl, rfl, rfl, trivial⟩, rfl, rfl⟩⟩
                  rintro ⟨⟨v78, v79⟩, rfl⟩
                  refine qn1546 _ _ ?_
                  refine qn1545 _ _ ?_
                  obtain rfl := Option.some.inj h38
                  refine EOk.done ?_
                  exact ⟨⟨_, rfl⟩, [], trivial, ⟨⟨rfl, rfl, rfl, rfl, rfl, rfl, trivial⟩, ⟨rfl, rfl, rfl, rfl, rfl, trivial⟩, rfl, rfl⟩⟩
        rintro ⟨⟨v35, v36, v37⟩, rfl⟩
        refine qn1420 _ _ ?_
        refine gor hn ?_
        refine Or.inr ?_
        refine qn1417 _ _ ?_
        refine EOk.done ?_
        exact ⟨⟨(n32, v35, v36, v37, (wr (v22 + (1 : Int)))), h29⟩, [], by show n32 < n32 + 1; omega, ⟨⟨rfl, rfl, rfl, rfl, rfl, rfl, trivial⟩, ⟨rfl, rfl, rfl, rfl, rfl, trivial⟩, rfl, rfl⟩⟩
      · refine goe hn ?_
        refine qx1418 _ _ _ ?_
        refine qx1417 _ _ _ ?_
        refine qe1416 _ _ ?_
        refine qn1415 _ _ ?_
        obtain rfl := Option.some.inj h29
        refine EOk.done ?_
        exact ⟨⟨_, rfl⟩, [], trivial, ⟨⟨rfl, rfl, trivial⟩, ⟨rfl, rfl, trivial⟩, rfl, rfl⟩⟩
  rintro ⟨v27, rfl⟩
  refine qn843 _ _ ?_
  refine COk.seqQ fun Q1608 qn1608 qx1608 qr1608 => ?_
  refine gor hn ?_
  refine qn1608 _ _ ?_
  refine got hn ?_
  obtain rfl := Option.some.inj h
  exact ⟨[(0, 19)], _, rfl, (by repeat (first | exact trivial | exact rfl | (refine And.intro ?_ ?_))), ⟨rfl, trivial⟩, rfl, rfl, rfl, rfl, rfl⟩

/- qcref1.Check -/
set_option maxRecDepth 100000 in
set_option maxHeartbeats 1000000 in
theorem qcref1_Check_ok (N : Nat) (a0 : Wd) (a1 : Int) (a2 : Me) (r : TFault) (h : qcref1_Check N a0 a1 a2 = some r) : Spec Try.prog 49 [] [.agg (eWd a0), .int a1, .agg (eMe a2)] (.agg (eTFault r)) [] [] := by
  refine Spec.of tabOk Try.func49 rfl Try.ntmps49 (by kernel_rfl) rfl rfl rfl fun Γ hn => ?_
  unfold qcref1_Check at h
  refine COk.seqQ fun Q79 qn79 qx79 qr79 => ?_
  refine gor hn ?_
  refine qn79 _ _ ?_
  refine COk.seqQ fun Q80 qn80 qx80 qr80 => ?_
  refine COk.seqQ fun Q81 qn81 qx81 qr81 => ?_
  obtain ⟨o3, h2, h⟩ := bindM h
  refine COk.joinR (ι := { s : Bool // o3 = s }) (fun s => [(1, .int a1), (3, .ptr 3 0), (5, .ptr 5 0), (6, .ptr 6 0), (20, .bool s.1)]) (fun s => [(3, .box (eWd a0) 55), (5, .box (eMe a2) 74), (6, .box [.int (0 : Int), .int (0 : Int)] 85)]) (fun Q82 qn82 qx82 qr82 => ?_) (by intro s; rw [hn]; rfl) ?_
  · refine gor hn ?_
    refine bselM h2 (fun hb4 h2 => ?_) (fun hb4 h2 => ?_)
    · refine bselT hb4 ?_
      refine bselT hb4 ?_
      refine bselT hb4 ?_
      refine bselT hb4 ?_
      refine bselT hb4 ?_
      refine qn82 _ _ ?_
      obtain rfl := Option.some.inj h2
      refine EOk.done ?_
      exact ⟨⟨_, rfl⟩, [], trivial, ⟨⟨rfl, rfl, rfl, rfl, rfl, trivial⟩, ⟨rfl, rfl, rfl, trivial⟩, rfl, rfl⟩⟩
    · refine bselF hb4 ?_
      refine bselF hb4 ?_
      refine bselF hb4 ?_
      refine lenM (fun hl5 => ?_)
      refine bselF hb4 ?_
      refine bselF hb4 ?_
      refine qn82 _ _ ?_
      obtain rfl := Option.some.inj h2
      refine EOk.done ?_
      exact ⟨⟨_, rfl⟩, [], trivial, ⟨⟨rfl, rfl, rfl, rfl, rfl, trivial⟩, ⟨rfl, rfl, rfl, trivial⟩, rfl, rfl⟩⟩
  rintro ⟨v1, hv_⟩
  replace hv_ := hv_.symm
  subst hv_
  refine qn81 _ _ ?_
  refine goc hn ?_
  refine bselM h (fun hb6 h => ?_) (fun hb6 h => ?_)
  · refine COk.seqQ fun Q84 qn84 qx84 qr84 => ?_
    refine gor hn ?_
    refine qn84 _ _ ?_
    refine got hn ?_
    refine qr80 _ _ ?_
    obtain rfl := Option.some.inj h
    exact ⟨[], _, rfl, (by repeat (first | exact trivial | exact rfl | (refine And.intro ?_ ?_))), trivial, rfl, rfl, rfl, rfl, rfl⟩
  · refine gok hn ?_
    refine qn80 _ _ ?_
    refine COk.seqQ fun Q85 qn85 qx85 qr85 => ?_
    refine COk.seqQ fun Q86 qn86 qx86 qr86 => ?_
    refine gor hn ?_
    obtain ⟨r7, hr8, h⟩ := bindM h
    show CallOk Try.prog _ _ _ _
    refine CallOk.as (qcref1_Name_ok N a2.name r7 hr8) (by repeat (first | exact trivial | exact rfl | (refine And.intro ?_ ?_))) trivial rfl ?_
    refine qn86 _ _ ?_
    refine goc hn ?_
    refine bselM h (fun hb9 h => ?_) (fun hb9 h => ?_)
    · refine COk.seqQ fun Q88 qn88 qx88 qr88 => ?_
      refine gor hn ?_
      refine qn88 _ _ ?_
      refine got hn ?_
      refine qr85 _ _ ?_
      obtain rfl := Option.some.inj h
      exact ⟨[], _, rfl, (by repeat (first | exact trivial | exact rfl | (refine And.intro ?_ ?_))), trivial, rfl, rfl, rfl, rfl, rfl⟩
    · refine gok hn ?_
      refine qn85 _ _ ?_
      refine COk.seqQ fun Q89 qn89 qx89 qr89 => ?_
      refine COk.seqQ fun Q90 qn90 qx90 qr90 => ?_
      obtain ⟨o12, h11, h⟩ := bindM h
      refine COk.joinR (ι := { s : Bool // o12 = s }) (fun s => [(1, .int a1), (3, .ptr 3 0), (5, .ptr 5 0), (6, .ptr 6 0), (44, .bool s.1)]) (fun s => [(3, .box (eWd a0) 55), (5, .box (eMe a2) 74), (6, .box [.int (0 : Int), .int (0 : Int)] 85)]) (fun Q91 qn91 qx91 qr91 => ?_) (by intro s; rw [hn]; rfl) ?_
      · refine gor hn ?_
        refine bselM h11 (fun hb13 h11 => ?_) (fun hb13 h11 => ?_)
        · refine bselT hb13 ?_
          refine bselT hb13 ?_
          refine bselT hb13 ?_
          refine qn91 _ _ ?_
          obtain rfl := Option.some.inj h11
          refine EOk.done ?_
          exact ⟨⟨_, rfl⟩, [], trivial, ⟨⟨rfl, rfl, rfl, rfl, rfl, trivial⟩, ⟨rfl, rfl, rfl, trivial⟩, rfl, rfl⟩⟩
        · refine bselF hb13 ?_
          refine bselF hb13 ?_
          refine bselF hb13 ?_
          refine bselM h11 (fun hb14 h11 => ?_) (fun hb14 h11 => ?_)
          · refine bselT hb14 ?_
            refine bselT hb14 ?_
            refine bselT hb14 ?_
            refine qn91 _ _ ?_
            obtain rfl := Option.some.inj h11
            refine EOk.done ?_
            exact ⟨⟨_, rfl⟩, [], trivial, ⟨⟨rfl, rfl, rfl, rfl, rfl, trivial⟩, ⟨rfl, rfl, rfl, trivial⟩, rfl, rfl⟩⟩
          · refine bselF hb14 ?_
            refine bselF hb14 ?_
            refine bselF hb14 ?_
            refine bselM h11 (fun hb15 h11 => ?_) (fun hb15 h11 => ?_)
            · refine bselT hb15 ?_
              refine bselT hb15 ?_
              refine bselT hb15 ?_
              refine qn91 _ _ ?_
              obtain rfl := Option.some.inj h11
              refine EOk.done ?_
              exact ⟨⟨_, rfl⟩, [], trivial, ⟨⟨rfl, rfl, rfl, rfl, rfl, trivial⟩, ⟨rfl, rfl, rfl, trivial⟩, rfl, rfl⟩⟩
            · refine bselF hb15 ?_
              refine bselF hb15 ?_
              refine bselF hb15 ?_
              refine qn91 _ _ ?_
              obtain rfl := Option.some.inj h11
              refine EOk.done ?_
              exact ⟨⟨_, rfl⟩, [], trivial, ⟨⟨rfl, rfl, rfl, rfl, rfl, trivial⟩, ⟨rfl, rfl, rfl, trivial⟩, rfl, rfl⟩⟩
      rintro ⟨v10, hv_⟩
      replace hv_ := hv_.symm
      subst hv_
      refine qn90 _ _ ?_
      refine goc hn ?_
      refine bselM h (fun hb16 h => ?_) (fun hb16 h => ?_)
      · refine COk.seqQ fun Q93 qn93 qx93 qr93 => ?_
        refine gor hn ?_
        refine qn93 _ _ ?_
        refine got hn ?_
        refine qr89 _ _ ?_
        obtain rfl := Option.some.inj h
        exact ⟨[], _, rfl, (by repeat (first | exact trivial | exact rfl | (refine And.intro ?_ ?_))), trivial, rfl, rfl, rfl, rfl, rfl⟩
      · refine gok hn ?_
        refine qn89 _ _ ?_
        refine COk.seqQ fun Q94 qn94 qx94 qr94 => ?_
        refine COk.seqQ fun Q95 qn95 qx95 qr95 => ?_
        refine gor hn ?_
        refine qn95 _ _ ?_
        refine goc hn ?_
        refine bselM h (fun hb17 h => ?_) (fun hb17 h => ?_)
        · refine COk.seqQ fun Q97 qn97 qx97 qr97 => ?_
          refine gor hn ?_
          refine qn97 _ _ ?_
          refine got hn ?_
          refine qr94 _ _ ?_
          obtain rfl := Option.some.inj h
          exact ⟨[], _, rfl, (by repeat (first | exact trivial | exact rfl | (refine And.intro ?_ ?_))), trivial, rfl, rfl, rfl, rfl, rfl⟩
        · refine gok hn ?_
          refine qn94 _ _ ?_
          refine COk.seqQ fun Q98 qn98 qx98 qr98 => ?_
          refine COk.seqQ fun Q99 qn99 qx99 qr99 => ?_
          obtain ⟨o20, h19, h⟩ := bindM h
          refine COk.joinR (ι := { s : Bool // o20 = s }) (fun s => [(1, .int a1), (3, .ptr 3 0), (5, .ptr 5 0), (6, .ptr 6 0), (59, .bool s.1)]) (fun s => [(3, .box (eWd a0) 55), (5, .box (eMe a2) 74), (6, .box [.int (0 : Int), .int (0 : Int)] 85)]) (fun Q100 qn100 qx100 qr100 => ?_) (by intro s; rw [hn]; rfl) ?_
          · refine gor hn ?_
            refine lenM (fun hl21 => ?_)
            refine bselM h19 (fun hb22 h19 => ?_) (fun hb22 h19 => ?_)
            · refine bselT hb22 ?_
              refine bselT hb22 ?_
              refine bselT hb22 ?_
              refine bselT hb22 ?_
              refine qn100 _ _ ?_
              obtain rfl := Option.some.inj h19
              refine EOk.done ?_
              exact ⟨⟨_, rfl⟩, [], trivial, ⟨⟨rfl, rfl, rfl, rfl, rfl, trivial⟩, ⟨rfl, rfl, rfl, trivial⟩, rfl, rfl⟩⟩
            · refine bselF hb22 ?_
              refine bselF hb22 ?_
              refine lenM (fun hl23 => ?_)
              refine bselF hb22 ?_
              refine bselF hb22 ?_
              refine qn100 _ _ ?_
              obtain rfl := Option.some.inj h19
              refine EOk.done ?_
              exact ⟨⟨_, rfl⟩, [], trivial, ⟨⟨rfl, rfl, rfl, rfl, rfl, trivial⟩, ⟨rfl, rfl, rfl, trivial⟩, rfl, rfl⟩⟩
          rintro ⟨v18, hv_⟩
          replace hv_ := hv_.symm
          subst hv_
          refine qn99 _ _ ?_
          refine goc hn ?_
          refine bselM h (fun hb24 h => ?_) (fun hb24 h => ?_)
          · refine COk.seqQ fun Q102 qn102 qx102 qr102 => ?_
            refine gor hn ?_
            refine qn102 _ _ ?_
            refine got hn ?_
            refine qr98 _ _ ?_
            obtain rfl := Option.some.inj h
            exact ⟨[], _, rfl, (by repeat (first | exact trivial | exact rfl | (refine And.intro ?_ ?_))), trivial, rfl, rfl, rfl, rfl, rfl⟩
          · refine gok hn ?_
            refine qn98 _ _ ?_
            refine COk.seqQ fun Q103 qn103 qx103 qr103 => ?_
            refine COk.seqQ fun Q104 qn104 qx104 qr104 => ?_
            refine gor hn ?_
            refine lenM (fun hl25 => ?_)
            refine qn104 _ _ ?_
            obtain ⟨o27, h28, h⟩ := bindM h
            refine COk.joinR (ι := { s : Unit // o27 = Ctl.next s }) (fun s => [(5, .ptr 5 0), (6, .ptr 6 0)]) (fun s => [(5, .box (eMe a2) 74), (6, .box [.int (0 : Int), .int (0 : Int)] 85)]) (fun Q135 qn135 qx135 qr135 => ?_) (by intro s; rw [hn]; rfl) ?_
            · refine COk.blkQ fun Q136 qn136 qe136 qx136 qr136 => ?_
              refine COk.loopQ (ι := { q : ((List Ins) × Nat) // q.1 = a2.code.drop q.2 ∧ qcref1_Check_l1 N a0 a1 a2 q.1 q.2 = some o27 }) (fun q => [(1, .int a1), (3, .ptr 3 0), (5, .ptr 5 0), (6, .ptr 6 0), (62, .sl 5 (List.map eIns a2.code)), (63, .int (a2.code.length : Int)), (64, .int (q.1.2 : Int))]) (fun q => [(3, .box (eWd a0) 55), (5, .box (eMe a2) 74), (6, .box [.int (0 : Int), .int (0 : Int)] 85)]) (fun q => q.1.1.length) ⟨(a2.code, 0), rfl, h28⟩ [] ⟨⟨rfl, rfl, rfl, rfl, (by repeat (first | exact trivial | exact rfl | (refine And.intro ?_ ?_))), rfl, rfl, trivial⟩, ⟨rfl, rfl, rfl, trivial⟩, rfl, rfl⟩ (by intro q; rw [hn]; rfl) ?_
              rintro ⟨⟨rest_, k26⟩, hd30, h28⟩ Q137 qn137 qx137 qr137
              replace hd30 : rest_ = a2.code.drop k26 := hd30
              rcases rest_ with _ | ⟨x32, rest29⟩
              · have hlt34 := restNil hd30
                replace h28 := (qcref1_Check_l1.eq_1 _ _ _ _ _).symm.trans h28
                refine COk.seqQ fun Q138 qn138 qx138 qr138 => ?_
                refine gor hn ?_
                refine qn138 _ _ ?_
                refine COk.seqQ fun Q139 qn139 qx139 qr139 => ?_
                refine goc hn ?_
                refine bselF hlt34 ?_
                refine goe hn ?_
                refine qx139 _ _ _ ?_
                refine qx137 _ _ _ ?_
                refine qe136 _ _ ?_
                refine qn135 _ _ ?_
                obtain rfl := Option.some.inj h28
                refine EOk.done ?_
                exact ⟨⟨_, rfl⟩, [], trivial, ⟨⟨rfl, rfl, trivial⟩, ⟨rfl, rfl, trivial⟩, rfl, rfl⟩⟩
              · obtain ⟨hx33, hd2, hlt34⟩ := restCons hd30
                replace h28 := (qcref1_Check_l1.eq_2 _ _ _ _ _ _ _).symm.trans h28
                refine COk.seqQ fun Q140 qn140 qx140 qr140 => ?_
                refine gor hn ?_
                refine qn140 _ _ ?_
                refine COk.seqQ fun Q141 qn141 qx141 qr141 => ?_
                refine goc hn ?_
                refine bselT hlt34 ?_
                refine gok hn ?_
                refine qn141 _ _ ?_
                refine COk.seqQ fun Q142 qn142 qx142 qr142 => ?_
                refine COk.blkQ fun Q149 qn149 qe149 qx149 qr149 => ?_
                refine COk.seqQ fun Q150 qn150 qx150 qr150 => ?_
                refine gor hn ?_
                refine idxK hx33 ?_
                refine qn150 _ _ ?_
                refine COk.seqQ fun Q151 qn151 qx151 qr151 => ?_
                refine gor hn ?_
                obtain ⟨r35, hr36, h28⟩ := bindM h28
                show CallOk Try.prog _ _ _ _
                refine CallOk.as (qcref1_Numbers_ok N a0 a1 a2 x32 r35 hr36) (by repeat (first | exact trivial | exact rfl | (refine And.intro ?_ ?_))) trivial rfl ?_
                refine qn151 _ _ ?_
                refine COk.seqQ fun Q152 qn152 qx152 qr152 => ?_
                refine gor hn ?_
                refine qn152 _ _ ?_
                refine goc hn ?_
                refine bselM h28 (fun hb37 h28 => ?_) (fun hb37 h28 => ?_)
                · refine COk.seqQ fun Q154 qn154 qx154 qr154 => ?_
                  refine gor hn ?_
                  refine qn154 _ _ ?_
                  refine got hn ?_
                  refine qr149 _ _ ?_
                  refine qr142 _ _ ?_
                  refine qr137 _ _ ?_
                  refine qr136 _ _ ?_
                  refine qr135 _ _ ?_
                  refine qr103 _ _ ?_
                  obtain rfl := Option.some.inj h28
                  obtain rfl := Option.some.inj h
                  exact ⟨[], _, rfl, (by repeat (first | exact trivial | exact rfl | (refine And.intro ?_ ?_))), trivial, rfl, rfl, rfl, rfl, rfl⟩
                · refine gok hn ?_
                  refine qn149 _ _ ?_
                  refine qn142 _ _ ?_
                  refine gor hn ?_
                  refine Or.inl (And.intro (inrK hx33 hl25) ?_)
                  refine qn137 _ _ ?_
                  refine EOk.done ?_
                  exact ⟨⟨(rest29, k26 + 1), hd2, h28⟩, [], by show rest29.length < rest29.length + 1; omega, ⟨⟨rfl, rfl, rfl, rfl, (by repeat (first | exact trivial | exact rfl | (refine And.intro ?_ ?_))), rfl, rfl, trivial⟩, ⟨rfl, rfl, rfl, trivial⟩, rfl, rfl⟩⟩
            rintro ⟨⟨⟩, rfl⟩
            refine qn103 _ _ ?_
            refine COk.seqQ fun Q155 qn155 qx155 qr155 => ?_
            refine gor hn ?_
            obtain ⟨r38, hr39, h⟩ := bindM h
            show CallOk Try.prog _ _ _ _
            refine CallOk.as ((qcref1_Heights_ok N a2 r38 hr39).sw 0 82) (by repeat (first | exact trivial | exact rfl | (refine And.intro ?_ ?_))) trivial rfl ?_
            refine qn155 _ _ ?_
            refine COk.seqQ fun Q156 qn156 qx156 qr156 => ?_
            refine gor hn ?_
            refine qn156 _ _ ?_
            refine got hn ?_
            obtain rfl := Option.some.inj h
            exact ⟨[], _, rfl, (by repeat (first | exact trivial | exact rfl | (refine And.intro ?_ ?_))), trivial, rfl, rfl, rfl, rfl, rfl⟩

/- qcref1.Make -/
set_option maxRecDepth 100000 in
set_option maxHeartbeats 1000000 in
theorem qcref1_Make_ok (N : Nat) (a0 : Wd) (a1 : ByteArray) (a2 : Int) (a3 : Int) (r : (Wd × Int × Int)) (h : qcref1_Make N a0 a1 a2 a3 = some r) : Spec Try.prog 69 [] [.agg (eWd a0), .str a1, .int a2, .int a3] (.tup [.agg (eWd r.1), .int r.2.1, .int r.2.2]) [] [] := by
  refine Spec.of tabOk Try.func69 rfl Try.ntmps69 (by kernel_rfl) rfl rfl rfl fun Γ hn => ?_
  unfold qcref1_Make at h
  refine COk.seqQ fun Q69 qn69 qx69 qr69 => ?_
  refine gor hn ?_
  refine qn69 _ _ ?_
  refine COk.seqQ fun Q70 qn70 qx70 qr70 => ?_
  refine COk.seqQ fun Q71 qn71 qx71 qr71 => ?_
  refine gor hn ?_
  obtain ⟨r1, hr2, h⟩ := bindM h
  show CallOk Try.prog _ _ _ _
  refine CallOk.as (qcref1_Name_ok N a1 r1 hr2) (by repeat (first | exact trivial | exact rfl | (refine And.intro ?_ ?_))) trivial rfl ?_
  refine qn71 _ _ ?_
  refine goc hn ?_
  refine bselM h (fun hb3 h => ?_) (fun hb3 h => ?_)
  · refine COk.seqQ fun Q73 qn73 qx73 qr73 => ?_
    refine gor hn ?_
    refine qn73 _ _ ?_
    refine got hn ?_
    refine qr70 _ _ ?_
    obtain rfl := Option.some.inj h
    exact ⟨[], _, rfl, (by repeat (first | exact trivial | exact rfl | (refine And.intro ?_ ?_))), trivial, rfl, rfl, rfl, rfl, rfl⟩
  · refine gok hn ?_
    refine qn70 _ _ ?_
    refine COk.seqQ fun Q74 qn74 qx74 qr74 => ?_
    refine COk.seqQ fun Q75 qn75 qx75 qr75 => ?_
    refine gor hn ?_
    refine lenM (fun hl4 => ?_)
    refine qn75 _ _ ?_
    obtain ⟨o6, h7, h⟩ := bindM h
    refine COk.joinR (ι := { s : Unit // o6 = Ctl.next s }) (fun s => [(1, .str a1), (2, .int a2), (3, .int a3), (4, .ptr 4 0), (8, .ptr 8 0)]) (fun s => [(4, .box (eWd a0) 55), (8, .box [.nilsl, .nilsl, .int (0 : Int)] 55)]) (fun Q102 qn102 qx102 qr102 => ?_) (by intro s; rw [hn]; rfl) ?_
    · refine COk.blkQ fun Q103 qn103 qe103 qx103 qr103 => ?_
      refine COk.loopQ (ι := { q : ((List Cl) × Nat) // q.1 = a0.classes.drop q.2 ∧ qcref1_Make_l1 N a1 q.1 q.2 = some o6 }) (fun q => [(1, .str a1), (2, .int a2), (3, .int a3), (4, .ptr 4 0), (8, .ptr 8 0), (19, .sl 4 (List.map eCl a0.classes)), (20, .int (a0.classes.length : Int)), (21, .int (q.1.2 : Int))]) (fun q => [(4, .box (eWd a0) 55), (8, .box [.nilsl, .nilsl, .int (0 : Int)] 55)]) (fun q => q.1.1.length) ⟨(a0.classes, 0), rfl, h7⟩ [] ⟨⟨rfl, rfl, rfl, rfl, rfl, (by repeat (first | exact trivial | exact rfl | (refine And.intro ?_ ?_))), rfl, rfl, trivial⟩, ⟨rfl, rfl, trivial⟩, rfl, rfl⟩ (by intro q; rw [hn]; rfl) ?_
      rintro ⟨⟨rest_, k5⟩, hd9, h7⟩ Q104 qn104 qx104 qr104
      replace hd9 : rest_ = a0.classes.drop k5 := hd9
      rcases rest_ with _ | ⟨x11, rest8⟩
      · have hlt13 := restNil hd9
        replace h7 := (qcref1_Make_l1.eq_1 _ _ _).symm.trans h7
        refine COk.seqQ fun Q105 qn105 qx105 qr105 => ?_
        refine gor hn ?_
        refine qn105 _ _ ?_
        refine COk.seqQ fun Q106 qn106 qx106 qr106 => ?_
        refine goc hn ?_
        refine bselF hlt13 ?_
        refine goe hn ?_
        refine qx106 _ _ _ ?_
        refine qx104 _ _ _ ?_
        refine qe103 _ _ ?_
        refine qn102 _ _ ?_
        obtain rfl := Option.some.inj h7
        refine EOk.done ?_
        exact ⟨⟨_, rfl⟩, [], trivial, ⟨⟨rfl, rfl, rfl, rfl, rfl, trivial⟩, ⟨rfl, rfl, trivial⟩, rfl, rfl⟩⟩
      · obtain ⟨hx12, hd2, hlt13⟩ := restCons hd9
        replace h7 := (qcref1_Make_l1.eq_2 _ _ _ _ _).symm.trans h7
        refine COk.seqQ fun Q107 qn107 qx107 qr107 => ?_
        refine gor hn ?_
        refine qn107 _ _ ?_
        refine COk.seqQ fun Q108 qn108 qx108 qr108 => ?_
        refine goc hn ?_
        refine bselT hlt13 ?_
        refine gok hn ?_
        refine qn108 _ _ ?_
        refine COk.seqQ fun Q109 qn109 qx109 qr109 => ?_
        refine COk.blkQ fun Q115 qn115 qe115 qx115 qr115 => ?_
        refine COk.seqQ fun Q116 qn116 qx116 qr116 => ?_
        refine gor hn ?_
        refine idxK hx12 ?_
        refine qn116 _ _ ?_
        refine COk.seqQ fun Q117 qn117 qx117 qr117 => ?_
        refine gor hn ?_
        refine qn117 _ _ ?_
        refine goc hn ?_
        refine bselM h7 (fun hb14 h7 => ?_) (fun hb14 h7 => ?_)
        · refine COk.seqQ fun Q119 qn119 qx119 qr119 => ?_
          refine gor hn ?_
          refine qn119 _ _ ?_
          refine got hn ?_
          refine qr115 _ _ ?_
          refine qr109 _ _ ?_
          refine qr104 _ _ ?_
          refine qr103 _ _ ?_
          refine qr102 _ _ ?_
          refine qr74 _ _ ?_
          obtain rfl := Option.some.inj h7
          obtain rfl := Option.some.inj h
          exact ⟨[], _, rfl, (by repeat (first | exact trivial | exact rfl | (refine And.intro ?_ ?_))), trivial, rfl, rfl, rfl, rfl, rfl⟩
        · refine gok hn ?_
          refine qn115 _ _ ?_
          refine qn109 _ _ ?_
          refine gor hn ?_
          refine Or.inl (And.intro (inrK hx12 hl4) ?_)
          refine qn104 _ _ ?_
          refine EOk.done ?_
          exact ⟨⟨(rest8, k5 + 1), hd2, h7⟩, [], by show rest8.length < rest8.length + 1; omega, ⟨⟨rfl, rfl, rfl, rfl, rfl, (by repeat (first | exact trivial | exact rfl | (refine And.intro ?_ ?_))), rfl, rfl, trivial⟩, ⟨rfl, rfl, trivial⟩, rfl, rfl⟩⟩
    rintro ⟨⟨⟩, rfl⟩
    refine qn74 _ _ ?_
    refine COk.seqQ fun Q120 qn120 qx120 qr120 => ?_
    refine COk.seqQ fun Q121 qn121 qx121 qr121 => ?_
    obtain ⟨o17, h16, h⟩ := bindM h
    refine COk.joinR (ι := { s : Bool // o17 = s }) (fun s => [(1, .str a1), (2, .int a2), (3, .int a3), (4, .ptr 4 0), (8, .ptr 8 0), (39, .bool s.1)]) (fun s => [(4, .box (eWd a0) 55), (8, .box [.nilsl, .nilsl, .int (0 : Int)] 55)]) (fun Q122 qn122 qx122 qr122 => ?_) (by intro s; rw [hn]; rfl) ?_
    · refine gor hn ?_
      refine bselM h16 (fun hb18 h16 => ?_) (fun hb18 h16 => ?_)
      · refine bselT hb18 ?_
        refine bselT hb18 ?_
        refine bselT hb18 ?_
        refine bselT hb18 ?_
        refine bselT hb18 ?_
        refine qn122 _ _ ?_
        obtain rfl := Option.some.inj h16
        refine EOk.done ?_
        exact ⟨⟨_, rfl⟩, [], trivial, ⟨⟨rfl, rfl, rfl, rfl, rfl, rfl, trivial⟩, ⟨rfl, rfl, trivial⟩, rfl, rfl⟩⟩
      · refine bselF hb18 ?_
        refine bselF hb18 ?_
        refine bselF hb18 ?_
        refine lenM (fun hl19 => ?_)
        refine bselF hb18 ?_
        refine bselF hb18 ?_
        refine qn122 _ _ ?_
        obtain rfl := Option.some.inj h16
        refine EOk.done ?_
        exact ⟨⟨_, rfl⟩, [], trivial, ⟨⟨rfl, rfl, rfl, rfl, rfl, rfl, trivial⟩, ⟨rfl, rfl, trivial⟩, rfl, rfl⟩⟩
    rintro ⟨v15, hv_⟩
    replace hv_ := hv_.symm
    subst hv_
    refine qn121 _ _ ?_
    refine goc hn ?_
    refine bselM h (fun hb20 h => ?_) (fun hb20 h => ?_)
    · refine COk.seqQ fun Q124 qn124 qx124 qr124 => ?_
      refine gor hn ?_
      refine qn124 _ _ ?_
      refine got hn ?_
      refine qr120 _ _ ?_
      obtain rfl := Option.some.inj h
      exact ⟨[], _, rfl, (by repeat (first | exact trivial | exact rfl | (refine And.intro ?_ ?_))), trivial, rfl, rfl, rfl, rfl, rfl⟩
    · refine gok hn ?_
      refine qn120 _ _ ?_
      refine COk.seqQ fun Q125 qn125 qx125 qr125 => ?_
      refine COk.seqQ fun Q126 qn126 qx126 qr126 => ?_
      obtain ⟨o23, h22, h⟩ := bindM h
      refine COk.joinR (ι := { s : Bool // o23 = s }) (fun s => [(1, .str a1), (2, .int a2), (3, .int a3), (4, .ptr 4 0), (8, .ptr 8 0), (62, .bool s.1)]) (fun s => [(4, .box (eWd a0) 55), (8, .box [.nilsl, .nilsl, .int (0 : Int)] 55)]) (fun Q127 qn127 qx127 qr127 => ?_) (by intro s; rw [hn]; rfl) ?_
      · refine gor hn ?_
        refine bselM h22 (fun hb24 h22 => ?_) (fun hb24 h22 => ?_)
        · refine bselT hb24 ?_
          refine bselT hb24 ?_
          refine qn127 _ _ ?_
          obtain rfl := Option.some.inj h22
          refine EOk.done ?_
          exact ⟨⟨_, rfl⟩, [], trivial, ⟨⟨rfl, rfl, rfl, rfl, rfl, rfl, trivial⟩, ⟨rfl, rfl, trivial⟩, rfl, rfl⟩⟩
        · refine bselF hb24 ?_
          refine bselF hb24 ?_
          refine bselM h22 (fun hb25 h22 => ?_) (fun hb25 h22 => ?_)
          · refine bselT hb25 ?_
            refine bselT hb25 ?_
            refine bselT hb25 ?_
            refine bselT hb25 ?_
            refine bselT hb25 ?_
            refine bselT hb25 ?_
            refine qn127 _ _ ?_
            obtain rfl := Option.some.inj h22
            refine EOk.done ?_
            exact ⟨⟨_, rfl⟩, [], trivial, ⟨⟨rfl, rfl, rfl, rfl, rfl, rfl, trivial⟩, ⟨rfl, rfl, trivial⟩, rfl, rfl⟩⟩
          · refine bselF hb25 ?_
            refine bselF hb25 ?_
            refine bselF hb25 ?_
            obtain ⟨r26, hr27, h22⟩ := bindM h22
            show CallOk Try.prog _ _ _ _
            refine CallOk.as (qcref1_Slots_ok N a0 a2 r26 hr27) (by repeat (first | exact trivial | exact rfl | (refine And.intro ?_ ?_))) trivial rfl ?_
            refine bselF hb25 ?_
            refine Or.inr ?_
            refine bselF hb25 ?_
            refine bselF hb25 ?_
            refine bselM h22 (fun hb28 h22 => ?_) (fun hb28 h22 => ?_)
            · refine bselT hb28 ?_
              refine bselT hb28 ?_
              refine bselT hb28 ?_
              refine bselT hb28 ?_
              refine qn127 _ _ ?_
              obtain rfl := Option.some.inj h22
              refine EOk.done ?_
              exact ⟨⟨_, rfl⟩, [], trivial, ⟨⟨rfl, rfl, rfl, rfl, rfl, rfl, trivial⟩, ⟨rfl, rfl, trivial⟩, rfl, rfl⟩⟩
            · refine bselF hb28 ?_
              refine bselF hb28 ?_
              refine bselM h22 (fun hb29 h22 => ?_) (fun hb29 h22 => ?_)
              · refine bselT hb29 ?_
                refine bselF hb28 ?_
                refine bselT hb29 ?_
                refine bselF hb28 ?_
                refine qn127 _ _ ?_
                obtain rfl := Option.some.inj h22
                refine EOk.done ?_
                exact ⟨⟨_, rfl⟩, [], trivial, ⟨⟨rfl, rfl, rfl, rfl, rfl, rfl, trivial⟩, ⟨rfl, rfl, trivial⟩, rfl, rfl⟩⟩
              · refine bselF hb29 ?_
                refine bselF hb28 ?_
                refine bselF hb29 ?_
                refine bselF hb28 ?_
                refine qn127 _ _ ?_
                obtain rfl := Option.some.inj h22
                refine EOk.done ?_
                exact ⟨⟨_, rfl⟩, [], trivial, ⟨⟨rfl, rfl, rfl, rfl, rfl, rfl, trivial⟩, ⟨rfl, rfl, trivial⟩, rfl, rfl⟩⟩
      rintro ⟨v21, hv_⟩
      replace hv_ := hv_.symm
      subst hv_
      refine qn126 _ _ ?_
      refine goc hn ?_
      refine bselM h (fun hb30 h => ?_) (fun hb30 h => ?_)
      · refine COk.seqQ fun Q129 qn129 qx129 qr129 => ?_
        refine gor hn ?_
        refine qn129 _ _ ?_
        refine got hn ?_
        refine qr125 _ _ ?_
        obtain rfl := Option.some.inj h
        exact ⟨[], _, rfl, (by repeat (first | exact trivial | exact rfl | (refine And.intro ?_ ?_))), trivial, rfl, rfl, rfl, rfl, rfl⟩
      · refine gok hn ?_
        refine qn125 _ _ ?_
        refine COk.seqQ fun Q130 qn130 qx130 qr130 => ?_
        refine COk.seqQ fun Q131 qn131 qx131 qr131 => ?_
        refine gor hn ?_
        refine lenM (fun hl31 => ?_)
        refine qn131 _ _ ?_
        refine goc hn ?_
        refine bselM h (fun hb32 h => ?_) (fun hb32 h => ?_)
        · refine COk.seqQ fun Q133 qn133 qx133 qr133 => ?_
          refine gor hn ?_
          refine qn133 _ _ ?_
          refine got hn ?_
          refine qr130 _ _ ?_
          obtain rfl := Option.some.inj h
          exact ⟨[], _, rfl, (by repeat (first | exact trivial | exact rfl | (refine And.intro ?_ ?_))), trivial, rfl, rfl, rfl, rfl, rfl⟩
        · refine gok hn ?_
          refine qn130 _ _ ?_
          refine COk.seqQ fun Q134 qn134 qx134 qr134 => ?_
          refine gor hn ?_
          refine lenM (fun hl33 => ?_)
          refine qn134 _ _ ?_
          refine COk.seqQ fun Q135 qn135 qx135 qr135 => ?_
          refine gor hn ?_
          refine Exists.intro (List.map eCl ([] : List Cl)) (And.intro (by repeat (first | exact trivial | exact rfl | (refine And.intro ?_ ?_))) ?_)
          obtain ⟨hg34, h⟩ := guardM h
          refine appM (l2 := a0.classes) hg34 (leLs_refl _) ?_
          refine Exists.intro (List.map eCl [(⟨a1, a2, a3, []⟩ : Cl)]) (And.intro (by repeat (first | exact trivial | exact rfl | (refine And.intro ?_ ?_))) ?_)
          obtain ⟨hg35, h⟩ := guardM h
          refine appM (l2 := [(⟨a1, a2, a3, []⟩ : Cl)]) hg35 (leLs_refl _) ?_
          refine qn135 _ _ ?_
          refine COk.seqQ fun Q136 qn136 qx136 qr136 => ?_
          refine gor hn ?_
          refine qn136 _ _ ?_
          refine COk.fzAll 81 rfl ?_
          refine got hn ?_
          obtain rfl := Option.some.inj h
          exact ⟨[], _, rfl, (by repeat (first | exact trivial | exact rfl | (refine And.intro ?_ ?_))), trivial, rfl, rfl, rfl, rfl, rfl⟩

/- qcref1.Install -/
set_option maxRecDepth 100000 in
set_option maxHeartbeats 1000000 in
theorem qcref1_Install_ok (N : Nat) (a0 : Wd) (a1 : Int) (a2 : Me) (r : (Wd × Int)) (h : qcref1_Install N a0 a1 a2 = some r) : Spec Try.prog 70 [] [.agg (eWd a0), .int a1, .agg (eMe a2)] (.tup [.agg (eWd r.1), .int r.2]) [] [] := by
  refine Spec.of tabOk Try.func70 rfl Try.ntmps70 (by kernel_rfl) rfl rfl rfl fun Γ hn => ?_
  unfold qcref1_Install at h
  refine COk.seqQ fun Q283 qn283 qx283 qr283 => ?_
  refine gor hn ?_
  refine qn283 _ _ ?_
  refine COk.seqQ fun Q284 qn284 qx284 qr284 => ?_
  refine COk.seqQ fun Q285 qn285 qx285 qr285 => ?_
  obtain ⟨o3, h2, h⟩ := bindM h
  refine COk.joinR (ι := { s : Bool // o3 = s }) (fun s => [(1, .int a1), (3, .ptr 3 0), (5, .ptr 5 0), (6, .ptr 6 0), (21, .bool s.1)]) (fun s => [(3, .box (eWd a0) 55), (5, .box (eMe a2) 74), (6, .box [.nilsl, .nilsl, .int (0 : Int)] 55)]) (fun Q286 qn286 qx286 qr286 => ?_) (by intro s; rw [hn]; rfl) ?_
  · refine gor hn ?_
    refine bselM h2 (fun hb4 h2 => ?_) (fun hb4 h2 => ?_)
    · refine bselT hb4 ?_
      refine bselT hb4 ?_
      refine bselT hb4 ?_
      refine bselT hb4 ?_
      refine bselT hb4 ?_
      refine qn286 _ _ ?_
      obtain rfl := Option.some.inj h2
      refine EOk.done ?_
      exact ⟨⟨_, rfl⟩, [], trivial, ⟨⟨rfl, rfl, rfl, rfl, rfl, trivial⟩, ⟨rfl, rfl, rfl, trivial⟩, rfl, rfl⟩⟩
    · refine bselF hb4 ?_
      refine bselF hb4 ?_
      refine bselF hb4 ?_
      refine lenM (fun hl5 => ?_)
      refine bselF hb4 ?_
      refine bselF hb4 ?_
      refine qn286 _ _ ?_
      obtain rfl := Option.some.inj h2
      refine EOk.done ?_
      exact ⟨⟨_, rfl⟩, [], trivial, ⟨⟨rfl, rfl, rfl, rfl, rfl, trivial⟩, ⟨rfl, rfl, rfl, trivial⟩, rfl, rfl⟩⟩
  rintro ⟨v1, hv_⟩
  replace hv_ := hv_.symm
  subst hv_
  refine qn285 _ _ ?_
  refine goc hn ?_
  refine bselM h (fun hb6 h => ?_) (fun hb6 h => ?_)
  · refine COk.seqQ fun Q288 qn288 qx288 qr288 => ?_
    refine gor hn ?_
    refine qn288 _ _ ?_
    refine got hn ?_
    refine qr284 _ _ ?_
    obtain rfl := Option.some.inj h
    exact ⟨[], _, rfl, (by repeat (first | exact trivial | exact rfl | (refine And.intro ?_ ?_))), trivial, rfl, rfl, rfl, rfl, rfl⟩
  · refine gok hn ?_
    refine qn284 _ _ ?_
    refine COk.seqQ fun Q289 qn289 qx289 qr289 => ?_
    refine gor hn ?_
    refine qn289 _ _ ?_
    refine COk.seqQ fun Q290 qn290 qx290 qr290 => ?_
    refine gor hn ?_
    refine qn290 _ _ ?_
    refine COk.seqQ fun Q291 qn291 qx291 qr291 => ?_
    refine COk.seqQ fun Q292 qn292 qx292 qr292 => ?_
    refine gor hn ?_
    obtain ⟨x7, hx8, h⟩ := bindM h
    refine idxM hx8 ?_
    refine lenM (fun hl9 => ?_)
    refine qn292 _ _ ?_
    refine COk.nilrow 8 208 5 74 rfl rfl rfl ?_
    obtain ⟨o20, h21, h⟩ := bindM h
    refine COk.joinR (ι := { s : ((List Me) × Bool × Bool) // o20 = s }) (fun s => [(1, .int a1), (3, .ptr 3 0), (5, .ptr 5 0), (6, .ptr 6 0), (8, .own 208), (9, .bool s.1.2.1), (10, .bool s.1.2.2)]) (fun s => [(3, .box (eWd a0) 55), (5, .box (eMe a2) 74), (6, .box [.nilsl, .nilsl, .int (0 : Int)] 55), (208, .row 5 (List.map eMe s.1.1) 74)]) (fun Q499 qn499 qx499 qr499 => ?_) (by intro s; rw [hn]; rfl) ?_
    · refine COk.blkQ fun Q500 qn500 qe500 qx500 qr500 => ?_
      refine COk.loopQ (ι := { q : ((List Me) × Nat × (List Me) × Bool × Bool) // q.1 = x7.methods.drop q.2.1 ∧ qcref1_Install_l1 N a2 q.1 q.2.1 q.2.2.1 q.2.2.2.1 q.2.2.2.2 = some o20 }) (fun q => [(1, .int a1), (3, .ptr 3 0), (5, .ptr 5 0), (6, .ptr 6 0), (8, .own 208), (9, .bool q.1.2.2.2.1), (10, .bool q.1.2.2.2.2), (28, .sl 5 (List.map eMe x7.methods)), (29, .int (x7.methods.length : Int)), (30, .int (q.1.2.1 : Int))]) (fun q => [(3, .box (eWd a0) 55), (5, .box (eMe a2) 74), (6, .box [.nilsl, .nilsl, .int (0 : Int)] 55), (208, .row 5 (List.map eMe q.1.2.2.1) 74)]) (fun q => q.1.1.length) ⟨(x7.methods, 0, ([] : List Me), false, false), rfl, h21⟩ [] ⟨⟨rfl, rfl, rfl, rfl, rfl, rfl, rfl, (by repeat (first | exact trivial | exact rfl | (refine And.intro ?_ ?_))), rfl, rfl, trivial⟩, ⟨rfl, rfl, rfl, rfl, trivial⟩, rfl, rfl⟩ (by intro q; rw [hn]; rfl) ?_
      rintro ⟨⟨rest_, k10, v11, v12, v13⟩, hd23, h21⟩ Q501 qn501 qx501 qr501
      replace hd23 : rest_ = x7.methods.drop k10 := hd23
      rcases rest_ with _ | ⟨x25, rest22⟩
      · have hlt27 := restNil hd23
        replace h21 := (qcref1_Install_l1.eq_1 _ _ _ _ _ _).symm.trans h21
        refine COk.seqQ fun Q502 qn502 qx502 qr502 => ?_
        refine gor hn ?_
        refine qn502 _ _ ?_
        refine COk.seqQ fun Q503 qn503 qx503 qr503 => ?_
        refine goc hn ?_
        refine bselF hlt27 ?_
        refine goe hn ?_
        refine qx503 _ _ _ ?_
        refine qx501 _ _ _ ?_
        refine qe500 _ _ ?_
        refine qn499 _ _ ?_
        obtain rfl := Option.some.inj h21
        refine EOk.done ?_
        exact ⟨⟨_, rfl⟩, [], trivial, ⟨⟨rfl, rfl, rfl, rfl, rfl, rfl, rfl, trivial⟩, ⟨rfl, rfl, rfl, rfl, trivial⟩, rfl, rfl⟩⟩
      · obtain ⟨hx26, hd2, hlt27⟩ := restCons hd23
        replace h21 := (qcref1_Install_l1.eq_2 _ _ _ _ _ _ _ _).symm.trans h21
        refine COk.seqQ fun Q504 qn504 qx504 qr504 => ?_
        refine gor hn ?_
        refine qn504 _ _ ?_
        refine COk.seqQ fun Q505 qn505 qx505 qr505 => ?_
        refine goc hn ?_
        refine bselT hlt27 ?_
        refine gok hn ?_
        refine qn505 _ _ ?_
        refine COk.seqQ fun Q506 qn506 qx506 qr506 => ?_
        obtain ⟨o32, h31, h21⟩ := bindM h21
        refine COk.joinR (ι := { s : ((List Me) × Bool × Bool) // o32 = s }) (fun s => [(1, .int a1), (3, .ptr 3 0), (5, .ptr 5 0), (6, .ptr 6 0), (8, .own 42), (9, .bool s.1.2.1), (10, .bool s.1.2.2), (28, .sl 5 (List.map eMe x7.methods)), (29, .int (x7.methods.length : Int)), (30, .int (k10 : Int))]) (fun s => [(3, .box (eWd a0) 55), (5, .box (eMe a2) 74), (6, .box [.nilsl, .nilsl, .int (0 : Int)] 55), (42, .row 5 (List.map eMe s.1.1) 74)]) (fun Q537 qn537 qx537 qr537 => ?_) (by intro s; rw [hn]; rfl) ?_
        · refine COk.blkQ fun Q538 qn538 qe538 qx538 qr538 => ?_
          refine COk.seqQ fun Q539 qn539 qx539 qr539 => ?_
          refine gor hn ?_
          refine idxK hx26 ?_
          refine qn539 _ _ ?_
          refine COk.seqQ fun Q540 qn540 qx540 qr540 => ?_
          refine COk.seqQ fun Q541 qn541 qx541 qr541 => ?_
          refine gor hn ?_
          refine qn541 _ _ ?_
          refine goc hn ?_
          refine bselM h31 (fun hb33 h31 => ?_) (fun hb33 h31 => ?_)
          · refine COk.seqQ fun Q544 qn544 qx544 qr544 => ?_
            refine gor hn ?_
            refine Exists.intro (List.map eMe [a2]) (And.intro (by repeat (first | exact trivial | exact rfl | (refine And.intro ?_ ?_))) ?_)
            obtain ⟨hg34, h31⟩ := guardM h31
            refine appM (l2 := [a2]) hg34 (leLs_refl _) ?_
            refine qn544 _ _ ?_
            refine COk.seqQ fun Q545 qn545 qx545 qr545 => ?_
            refine gor hn ?_
            refine qn545 _ _ ?_
            refine goe hn ?_
            refine qx540 _ _ _ ?_
            refine qe538 _ _ ?_
            refine qn537 _ _ ?_
            obtain rfl := Option.some.inj h31
            refine EOk.done ?_
            exact ⟨⟨_, rfl⟩, [], trivial, ⟨⟨rfl, rfl, rfl, rfl, rfl, rfl, rfl, (by repeat (first | exact trivial | exact rfl | (refine And.intro ?_ ?_))), rfl, rfl, trivial⟩, ⟨rfl, rfl, rfl, rfl, trivial⟩, rfl, rfl⟩⟩
          · refine gok hn ?_
            refine qn540 _ _ ?_
            refine COk.seqQ fun Q546 qn546 qx546 qr546 => ?_
            refine COk.seqQ fun Q547 qn547 qx547 qr547 => ?_
            obtain ⟨o37, h36, h31⟩ := bindM h31
            refine COk.joinR (ι := { s : Bool // o37 = s }) (fun s => [(1, .int a1), (3, .ptr 3 0), (5, .ptr 5 0), (6, .ptr 6 0), (8, .own 208), (9, .bool v12), (10, .bool v13), (12, .ptr 12 0), (28, .sl 5 (List.map eMe x7.methods)), (29, .int (x7.methods.length : Int)), (30, .int (k10 : Int)), (51, .bool s.1)]) (fun s => [(3, .box (eWd a0) 55), (5, .box (eMe a2) 74), (6, .box [.nilsl, .nilsl, .int (0 : Int)] 55), (12, .box (eMe x25) 74), (208, .row 5 (List.map eMe v11) 74)]) (fun Q548 qn548 qx548 qr548 => ?_) (by intro s; rw [hn]; rfl) ?_
            · refine gor hn ?_
              refine bselM h36 (fun hb38 h36 => ?_) (fun hb38 h36 => ?_)
              · refine bselT hb38 ?_
                refine bselT hb38 ?_
                refine bselT hb38 ?_
                refine bselT hb38 ?_
                refine bselT hb38 ?_
                refine qn548 _ _ ?_
                obtain rfl := Option.some.inj h36
                refine EOk.done ?_
                exact ⟨⟨_, rfl⟩, [], trivial, ⟨⟨rfl, rfl, rfl, rfl, rfl, rfl, rfl, rfl, (by repeat (first | exact trivial | exact rfl | (refine And.intro ?_ ?_))), rfl, rfl, rfl, trivial⟩, ⟨rfl, rfl, rfl, rfl, rfl, trivial⟩, rfl, rfl⟩⟩
              · refine bselF hb38 ?_
                refine bselF hb38 ?_
                refine bselF hb38 ?_
                refine bselF hb38 ?_
                refine bselF hb38 ?_
                refine qn548 _ _ ?_
                obtain rfl := Option.some.inj h36
                refine EOk.done ?_
                exact ⟨⟨_, rfl⟩, [], trivial, ⟨⟨rfl, rfl, rfl, rfl, rfl, rfl, rfl, rfl, (by repeat (first | exact trivial | exact rfl | (refine And.intro ?_ ?_))), rfl, rfl, rfl, trivial⟩, ⟨rfl, rfl, rfl, rfl, rfl, trivial⟩, rfl, rfl⟩⟩
            rintro ⟨v35, hv_⟩
            replace hv_ := hv_.symm
            subst hv_
            refine qn547 _ _ ?_
            obtain ⟨o42, h41, h31⟩ := bindM h31
            refine COk.joinR (ι := { s : ((List Me) × Bool) // o42 = s }) (fun s => [(1, .int a1), (3, .ptr 3 0), (5, .ptr 5 0), (6, .ptr 6 0), (8, .own 55), (9, .bool s.1.2), (10, .bool v13), (12, .ptr 12 0), (28, .sl 5 (List.map eMe x7.methods)), (29, .int (x7.methods.length : Int)), (30, .int (k10 : Int))]) (fun s => [(3, .box (eWd a0) 55), (5, .box (eMe a2) 74), (6, .box [.nilsl, .nilsl, .int (0 : Int)] 55), (12, .box (eMe x25) 74), (55, .row 5 (List.map eMe s.1.1) 74)]) (fun Q551 qn551 qx551 qr551 => ?_) (by intro s; rw [hn]; rfl) ?_
            · refine goc hn ?_
              refine bselM h41 (fun hb43 h41 => ?_) (fun hb43 h41 => ?_)
              · refine COk.seqQ fun Q552 qn552 qx552 qr552 => ?_
                refine gor hn ?_
                refine Exists.intro (List.map eMe [a2]) (And.intro (by repeat (first | exact trivial | exact rfl | (refine And.intro ?_ ?_))) ?_)
                obtain ⟨hg44, h41⟩ := guardM h41
                refine appM (l2 := [a2]) hg44 (leLs_refl _) ?_
                refine qn552 _ _ ?_
                refine gor hn ?_
                refine qn551 _ _ ?_
                obtain rfl := Option.some.inj h41
                refine EOk.done ?_
                exact ⟨⟨_, rfl⟩, [], trivial, ⟨⟨rfl, rfl, rfl, rfl, rfl, rfl, rfl, rfl, (by repeat (first | exact trivial | exact rfl | (refine And.intro ?_ ?_))), rfl, rfl, trivial⟩, ⟨rfl, rfl, rfl, rfl, rfl, trivial⟩, rfl, rfl⟩⟩
              · refine gok hn ?_
                refine qn551 _ _ ?_
                obtain rfl := Option.some.inj h41
                refine EOk.done ?_
                exact ⟨⟨_, rfl⟩, [(55, 208)], trivial, ⟨⟨rfl, rfl, rfl, rfl, rfl, rfl, rfl, rfl, (by repeat (first | exact trivial | exact rfl | (refine And.intro ?_ ?_))), rfl, rfl, trivial⟩, ⟨rfl, rfl, rfl, rfl, rfl, trivial⟩, rfl, rfl⟩⟩
            rintro ⟨⟨v39, v40⟩, rfl⟩
            refine qn546 _ _ ?_
            refine gor hn ?_
            refine Exists.intro (List.map eMe [x25]) (And.intro (by repeat (first | exact trivial | exact rfl | (refine And.intro ?_ ?_))) ?_)
            obtain ⟨hg45, h31⟩ := guardM h31
            refine appM (l2 := [x25]) hg45 (leLs_refl _) ?_
            refine qn538 _ _ ?_
            refine qn537 _ _ ?_
            obtain rfl := Option.some.inj h31
            refine EOk.done ?_
            exact ⟨⟨_, rfl⟩, [(42, 59)], trivial, ⟨⟨rfl, rfl, rfl, rfl, rfl, rfl, rfl, (by repeat (first | exact trivial | exact rfl | (refine And.intro ?_ ?_))), rfl, rfl, trivial⟩, ⟨rfl, rfl, rfl, rfl, trivial⟩, rfl, rfl⟩⟩
        rintro ⟨⟨v28, v29, v30⟩, rfl⟩
        refine qn506 _ _ ?_
        refine gor hn ?_
        refine Or.inl (And.intro (inrK hx26 hl9) ?_)
        refine qn501 _ _ ?_
        refine EOk.done ?_
        exact ⟨⟨(rest22, k10 + 1, v28, v29, v30), hd2, h21⟩, [(208, 42)], by show rest22.length < rest22.length + 1; omega, ⟨⟨rfl, rfl, rfl, rfl, rfl, rfl, rfl, (by repeat (first | exact trivial | exact rfl | (refine And.intro ?_ ?_))), rfl, rfl, trivial⟩, ⟨rfl, rfl, rfl, rfl, trivial⟩, rfl, rfl⟩⟩
    rintro ⟨⟨v17, v18, v19⟩, rfl⟩
    refine qn291 _ _ ?_
    refine COk.seqQ fun Q553 qn553 qx553 qr553 => ?_
    refine COk.seqQ fun Q554 qn554 qx554 qr554 => ?_
    refine gor hn ?_
    refine qn554 _ _ ?_
    obtain ⟨o48, h47, h⟩ := bindM h
    refine COk.joinR (ι := { s : (List Me) // o48 = s }) (fun s => [(1, .int a1), (3, .ptr 3 0), (6, .ptr 6 0), (8, .own 66), (10, .bool v19)]) (fun s => [(3, .box (eWd a0) 55), (6, .box [.nilsl, .nilsl, .int (0 : Int)] 55), (66, .row 5 (List.map eMe s.1) 74)]) (fun Q555 qn555 qx555 qr555 => ?_) (by intro s; rw [hn]; rfl) ?_
    · refine goc hn ?_
      refine bselM h47 (fun hb49 h47 => ?_) (fun hb49 h47 => ?_)
      · refine gor hn ?_
        refine Exists.intro (List.map eMe [a2]) (And.intro (by repeat (first | exact trivial | exact rfl | (refine And.intro ?_ ?_))) ?_)
        obtain ⟨hg50, h47⟩ := guardM h47
        refine appM (l2 := [a2]) hg50 (leLs_refl _) ?_
        refine qn555 _ _ ?_
        obtain rfl := Option.some.inj h47
        refine EOk.done ?_
        exact ⟨⟨_, rfl⟩, [], trivial, ⟨⟨rfl, rfl, rfl, rfl, rfl, trivial⟩, ⟨rfl, rfl, rfl, trivial⟩, rfl, rfl⟩⟩
      · refine gok hn ?_
        refine qn555 _ _ ?_
        obtain rfl := Option.some.inj h47
        refine EOk.done ?_
        exact ⟨⟨_, rfl⟩, [(66, 208)], trivial, ⟨⟨rfl, rfl, rfl, rfl, rfl, trivial⟩, ⟨rfl, rfl, rfl, trivial⟩, rfl, rfl⟩⟩
    rintro ⟨v46, hv_⟩
    replace hv_ := hv_.symm
    subst hv_
    refine qn553 _ _ ?_
    refine COk.seqQ fun Q556 qn556 qx556 qr556 => ?_
    refine COk.seqQ fun Q557 qn557 qx557 qr557 => ?_
    obtain ⟨o53, h52, h⟩ := bindM h
    refine COk.joinR (ι := { s : Bool // o53 = s }) (fun s => [(1, .int a1), (3, .ptr 3 0), (6, .ptr 6 0), (8, .own 66), (78, .bool s.1)]) (fun s => [(3, .box (eWd a0) 55), (6, .box [.nilsl, .nilsl, .int (0 : Int)] 55), (66, .row 5 (List.map eMe v46) 74)]) (fun Q558 qn558 qx558 qr558 => ?_) (by intro s; rw [hn]; rfl) ?_
    · refine gor hn ?_
      refine bselM h52 (fun hb54 h52 => ?_) (fun hb54 h52 => ?_)
      · refine bselT hb54 ?_
        refine bselT hb54 ?_
        refine bselT hb54 ?_
        obtain ⟨x55, hx56, h52⟩ := bindM h52
        refine idxM hx56 ?_
        refine bselT hb54 ?_
        refine bselT hb54 ?_
        refine bselT hb54 ?_
        refine lenM (fun hl57 => ?_)
        refine bselT hb54 ?_
        refine bselT hb54 ?_
        refine qn558 _ _ ?_
        obtain rfl := Option.some.inj h52
        refine EOk.done ?_
        exact ⟨⟨_, rfl⟩, [], trivial, ⟨⟨rfl, rfl, rfl, rfl, rfl, trivial⟩, ⟨rfl, rfl, rfl, trivial⟩, rfl, rfl⟩⟩
      · refine bselF hb54 ?_
        refine bselF hb54 ?_
        refine bselF hb54 ?_
        refine bselF hb54 ?_
        refine bselF hb54 ?_
        refine bselF hb54 ?_
        refine bselF hb54 ?_
        refine bselF hb54 ?_
        refine qn558 _ _ ?_
        obtain rfl := Option.some.inj h52
        refine EOk.done ?_
        exact ⟨⟨_, rfl⟩, [], trivial, ⟨⟨rfl, rfl, rfl, rfl, rfl, trivial⟩, ⟨rfl, rfl, rfl, trivial⟩, rfl, rfl⟩⟩
    rintro ⟨v51, hv_⟩
    replace hv_ := hv_.symm
    subst hv_
    refine qn557 _ _ ?_
    refine goc hn ?_
    refine bselM h (fun hb58 h => ?_) (fun hb58 h => ?_)
    · refine COk.seqQ fun Q560 qn560 qx560 qr560 => ?_
      refine gor hn ?_
      refine qn560 _ _ ?_
      refine got hn ?_
      refine qr556 _ _ ?_
      obtain rfl := Option.some.inj h
      exact ⟨[], _, rfl, (by repeat (first | exact trivial | exact rfl | (refine And.intro ?_ ?_))), trivial, rfl, rfl, rfl, rfl, rfl⟩
    · refine gok hn ?_
      refine qn556 _ _ ?_
      refine COk.seqQ fun Q561 qn561 qx561 qr561 => ?_
      refine gor hn ?_
      refine Exists.intro (List.map eCl ([] : List Cl)) (And.intro (by repeat (first | exact trivial | exact rfl | (refine And.intro ?_ ?_))) ?_)
      obtain ⟨hg59, h⟩ := guardM h
      refine appM (l2 := a0.classes) hg59 (leLs_refl _) ?_
      refine qn561 _ _ ?_
      refine COk.seqQ fun Q562 qn562 qx562 qr562 => ?_
      refine COk.fzAll 66 rfl ?_
      refine COk.sub (ts2 := [(1, .int a1), (3, .ptr 3 0), (6, .ptr 6 0), (8, .sl 5 (List.map eMe v46))]) (os2 := [(3, .box [.own 83, .sl 2 (List.map eOb a0.heap), .int a0.epoch] 55), (6, .box [.nilsl, .nilsl, .int (0 : Int)] 55), (83, .row 4 (List.map eCl (([] : List Cl) ++ a0.classes)) 71)]) [] ⟨⟨rfl, rfl, rfl, (by repeat (first | exact trivial | exact rfl | (refine And.intro ?_ ?_))), trivial⟩, ⟨rfl, rfl, rfl, trivial⟩, rfl, rfl⟩ (by rw [hn]; rfl) ?_
      refine gor hn ?_
      obtain ⟨x60, hx61, h⟩ := bindM h
      refine ownM hx61 ?_
      refine ldM (nthO_some hx61).2 ?_
      refine Exists.intro (List.map eCl ((([] : List Cl) ++ a0.classes).set a1.toNat (⟨x60.name, x60.super, x60.slots, v46⟩ : Cl))) (And.intro (leLs_set (nthO_some hx61).2 (by repeat (first | exact trivial | exact rfl | (refine And.intro ?_ ?_)))) ?_)
      refine qn562 _ _ ?_
      refine COk.seqQ fun Q563 qn563 qx563 qr563 => ?_
      refine gor hn ?_
      refine Or.inr ?_
      refine qn563 _ _ ?_
      refine COk.seqQ fun Q564 qn564 qx564 qr564 => ?_
      refine gor hn ?_
      refine qn564 _ _ ?_
      refine COk.fzAll 83 rfl ?_
      refine got hn ?_
      obtain rfl := Option.some.inj h
      exact ⟨[], _, rfl, (by repeat (first | exact trivial | exact rfl | (refine And.intro ?_ ?_))), trivial, rfl, rfl, rfl, rfl, rfl⟩
end Go.Proofs.Ytioalgofaiideaa
