/- Walks after the mirrors. Printed by mir.py. -/
import Derived.Test.YtoceeiamcfdnlaaWk1
namespace Go.Proofs.Ytoceeiamcfdnlaa
open Go.RowKit
set_option linter.unusedVariables false
/- qcref1.Next -/
set_option maxRecDepth 100000 in
set_option maxHeartbeats 1000000 in
theorem qcref1_Next_ok (N : Nat) (a0 : Ins) (a1 : Int) (r : (Int × Int × (List Int))) (h : qcref1_Next N a0 a1 = some r) : Spec Try.prog 91 [] [.agg (eIns a0), .int a1] (.tup [.int r.1, .int r.2.1, .own 0]) [(0, .row 1 (List.map eInt r.2.2) 3)] [0] := by
  refine Spec.of tabOk Try.func91 rfl Try.ntmps91 (by kernel_rfl) rfl rfl rfl fun Γ hn => ?_
  unfold qcref1_Next at h
  refine COk.seqQ fun Q401 qn401 qx401 qr401 => ?_
  refine gor hn ?_
  refine qn401 _ _ ?_
  refine COk.seqQ fun Q402 qn402 qx402 qr402 => ?_
  refine COk.seqQ fun Q403 qn403 qx403 qr403 => ?_
  refine gor hn ?_
  refine qn403 _ _ ?_
  refine COk.blkQ fun Q602 qn602 qe602 qx602 qr602 => ?_
  refine COk.seqQ fun Q603 qn603 qx603 qr603 => ?_
  refine COk.seqQ fun Q604 qn604 qx604 qr604 => ?_
  refine gor hn ?_
  refine qn604 _ _ ?_
  obtain ⟨o3, h2, h⟩ := bindM h
  refine COk.joinR (ι := { s : Bool // o3 = s }) (fun s => [(1, .int a1), (2, .ptr 2 0), (8, .int a0.op), (9, .bool s.1)]) (fun s => [(2, .box (eIns a0) 62)]) (fun Q609 qn609 qx609 qr609 => ?_) (by intro s; rw [hn]; rfl) ?_
  · refine goc hn ?_
    refine bselM h2 (fun hb4 h2 => ?_) (fun hb4 h2 => ?_)
    · refine gok hn ?_
      refine qn609 _ _ ?_
      obtain rfl := Option.some.inj h2
      refine EOk.done ?_
      exact ⟨⟨_, rfl⟩, [], trivial, ⟨⟨rfl, rfl, rfl, rfl, trivial⟩, ⟨rfl, trivial⟩, rfl, rfl⟩⟩
    · refine COk.seqQ fun Q610 qn610 qx610 qr610 => ?_
      refine gor hn ?_
      refine qn610 _ _ ?_
      obtain ⟨o7, h6, h2⟩ := bindM h2
      refine COk.joinR (ι := { s : Bool // o7 = s }) (fun s => [(1, .int a1), (2, .ptr 2 0), (8, .int a0.op), (9, .bool s.1)]) (fun s => [(2, .box (eIns a0) 62)]) (fun Q611 qn611 qx611 qr611 => ?_) (by intro s; rw [hn]; rfl) ?_
      · refine goc hn ?_
        refine bselM h6 (fun hb8 h6 => ?_) (fun hb8 h6 => ?_)
        · refine gok hn ?_
          refine qn611 _ _ ?_
          obtain rfl := Option.some.inj h6
          refine EOk.done ?_
          exact ⟨⟨_, rfl⟩, [], trivial, ⟨⟨rfl, rfl, rfl, rfl, trivial⟩, ⟨rfl, trivial⟩, rfl, rfl⟩⟩
        · refine gor hn ?_
          refine qn611 _ _ ?_
          obtain rfl := Option.some.inj h6
          refine EOk.done ?_
          exact ⟨⟨_, rfl⟩, [], trivial, ⟨⟨rfl, rfl, rfl, rfl, trivial⟩, ⟨rfl, trivial⟩, rfl, rfl⟩⟩
      rintro ⟨v5, hv_⟩
      replace hv_ := hv_.symm
      subst hv_
      refine qn609 _ _ ?_
      obtain rfl := Option.some.inj h2
      refine EOk.done ?_
      exact ⟨⟨_, rfl⟩, [], trivial, ⟨⟨rfl, rfl, rfl, rfl, trivial⟩, ⟨rfl, trivial⟩, rfl, rfl⟩⟩
  rintro ⟨v1, hv_⟩
  replace hv_ := hv_.symm
  subst hv_
  refine qn603 _ _ ?_
  refine goc hn ?_
  refine bselM h (fun hb9 h => ?_) (fun hb9 h => ?_)
  · refine COk.seqQ fun Q706 qn706 qx706 qr706 => ?_
    refine gor hn ?_
    refine Or.inr ?_
    refine Exists.intro (List.map eInt [(wr (a1 + (1 : Int)))]) (And.intro (by repeat (first | exact trivial | exact rfl | (refine And.intro ?_ ?_))) ?_)
    refine qn706 _ _ ?_
    refine got hn ?_
    refine qr602 _ _ ?_
    refine qr402 _ _ ?_
    obtain rfl := Option.some.inj h
    exact ⟨[(0, 15)], _, rfl, (by repeat (first | exact trivial | exact rfl | (refine And.intro ?_ ?_))), ⟨rfl, trivial⟩, rfl, rfl, rfl, rfl, rfl⟩
  · refine COk.seqQ fun Q707 qn707 qx707 qr707 => ?_
    refine gor hn ?_
    refine qn707 _ _ ?_
    refine goc hn ?_
    refine bselM h (fun hb10 h => ?_) (fun hb10 h => ?_)
    · refine COk.seqQ fun Q754 qn754 qx754 qr754 => ?_
      refine gor hn ?_
      refine Or.inr ?_
      refine Exists.intro (List.map eInt [(wr (a1 + (1 : Int)))]) (And.intro (by repeat (first | exact trivial | exact rfl | (refine And.intro ?_ ?_))) ?_)
      refine qn754 _ _ ?_
      refine got hn ?_
      refine qr602 _ _ ?_
      refine qr402 _ _ ?_
      obtain rfl := Option.some.inj h
      exact ⟨[(0, 20)], _, rfl, (by repeat (first | exact trivial | exact rfl | (refine And.intro ?_ ?_))), ⟨rfl, trivial⟩, rfl, rfl, rfl, rfl, rfl⟩
    · refine COk.seqQ fun Q755 qn755 qx755 qr755 => ?_
      refine gor hn ?_
      refine qn755 _ _ ?_
      refine goc hn ?_
      refine bselM h (fun hb11 h => ?_) (fun hb11 h => ?_)
      · refine COk.seqQ fun Q778 qn778 qx778 qr778 => ?_
        refine god hn (by kernel_rfl) ?_
        refine Or.inr ?_
        obtain ⟨hg12, h⟩ := guardM h
        refine decM hg12 ?_
        refine Or.inr ?_
        refine Exists.intro (List.map eInt [(wr (a1 + (1 : Int)))]) (And.intro (by repeat (first | exact trivial | exact rfl | (refine And.intro ?_ ?_))) ?_)
        refine qn778 _ _ ?_
        refine got hn ?_
        refine qr602 _ _ ?_
        refine qr402 _ _ ?_
        obtain rfl := Option.some.inj h
        exact ⟨[(0, 31)], _, rfl, (by repeat (first | exact trivial | exact rfl | (refine And.intro ?_ ?_))), ⟨rfl, trivial⟩, rfl, rfl, rfl, rfl, rfl⟩
      · refine COk.seqQ fun Q779 qn779 qx779 qr779 => ?_
        refine gor hn ?_
        refine qn779 _ _ ?_
        refine goc hn ?_
        refine bselM h (fun hb13 h => ?_) (fun hb13 h => ?_)
        · refine COk.seqQ fun Q790 qn790 qx790 qr790 => ?_
          refine god hn (by kernel_rfl) ?_
          refine Exists.intro (List.map eInt [a0.a]) (And.intro (by repeat (first | exact trivial | exact rfl | (refine And.intro ?_ ?_))) ?_)
          refine qn790 _ _ ?_
          refine got hn ?_
          refine qr602 _ _ ?_
          refine qr402 _ _ ?_
          obtain rfl := Option.some.inj h
          exact ⟨[(0, 36)], _, rfl, (by repeat (first | exact trivial | exact rfl | (refine And.intro ?_ ?_))), ⟨rfl, trivial⟩, rfl, rfl, rfl, rfl, rfl⟩
        · refine COk.seqQ fun Q791 qn791 qx791 qr791 => ?_
          refine gor hn ?_
          refine qn791 _ _ ?_
          refine goc hn ?_
          refine bselM h (fun hb14 h => ?_) (fun hb14 h => ?_)
          · refine COk.seqQ fun Q796 qn796 qx796 qr796 => ?_
            refine god hn (by kernel_rfl) ?_
            refine Or.inr ?_
            refine Exists.intro (List.map eInt [(wr (a1 + (1 : Int))), a0.a]) (And.intro (by repeat (first | exact trivial | exact rfl | (refine And.intro ?_ ?_))) ?_)
            refine qn796 _ _ ?_
            refine got hn ?_
            refine qr602 _ _ ?_
            refine qr402 _ _ ?_
            obtain rfl := Option.some.inj h
            exact ⟨[(0, 43)], _, rfl, (by repeat (first | exact trivial | exact rfl | (refine And.intro ?_ ?_))), ⟨rfl, trivial⟩, rfl, rfl, rfl, rfl, rfl⟩
          · refine COk.seqQ fun Q797 qn797 qx797 qr797 => ?_
            refine gor hn ?_
            refine qn797 _ _ ?_
            refine goc hn ?_
            refine bselM h (fun hb15 h => ?_) (fun hb15 h => ?_)
            · refine COk.seqQ fun Q799 qn799 qx799 qr799 => ?_
              refine gor hn ?_
              refine qn799 _ _ ?_
              refine COk.nilrow 6 206 1 3 rfl rfl rfl ?_
              refine got hn ?_
              refine qr602 _ _ ?_
              refine qr402 _ _ ?_
              obtain rfl := Option.some.inj h
              exact ⟨[(0, 206)], _, rfl, (by repeat (first | exact trivial | exact rfl | (refine And.intro ?_ ?_))), ⟨rfl, trivial⟩, rfl, rfl, rfl, rfl, rfl⟩
            · refine gok hn ?_
              refine qn602 _ _ ?_
              refine qn402 _ _ ?_
              refine COk.seqQ fun Q800 qn800 qx800 qr800 => ?_
              refine gor hn ?_
              refine Or.inr ?_
              refine Exists.intro (List.map eInt [(wr (a1 + (1 : Int)))]) (And.intro (by repeat (first | exact trivial | exact rfl | (refine And.intro ?_ ?_))) ?_)
              refine qn800 _ _ ?_
              refine got hn ?_
              obtain rfl := Option.some.inj h
              exact ⟨[(0, 48)], _, rfl, (by repeat (first | exact trivial | exact rfl | (refine And.intro ?_ ?_))), ⟨rfl, trivial⟩, rfl, rfl, rfl, rfl, rfl⟩

/- qcref1.Heights -/
set_option maxRecDepth 100000 in
set_option maxHeartbeats 1000000 in
theorem qcref1_Heights_ok (N : Nat) (a0 : Me) (r : ((List Int) × TFault)) (h : qcref1_Heights N a0 = some r) : Spec Try.prog 78 [] [.agg (eMe a0)] (.tup [.own 0, .agg (eTFault r.2)]) [(0, .row 1 (List.map eInt r.1) 3)] [0] := by
  refine Spec.of tabOk Try.func78 rfl Try.ntmps78 (by kernel_rfl) rfl rfl rfl fun Γ hn => ?_
  unfold qcref1_Heights at h
  refine COk.seqQ fun Q805 qn805 qx805 qr805 => ?_
  refine gor hn ?_
  refine qn805 _ _ ?_
  refine COk.seqQ fun Q806 qn806 qx806 qr806 => ?_
  refine gor hn ?_
  refine lenM (fun hl1 => ?_)
  obtain ⟨hg2, h⟩ := guardM h
  refine mkM (enc := eInt) (x := (0 : Int)) hg2 (by repeat (first | exact trivial | exact rfl | (refine And.intro ?_ ?_))) ?_
  refine qn806 _ _ ?_
  refine COk.seqQ fun Q807 qn807 qx807 qr807 => ?_
  refine COk.seqQ fun Q808 qn808 qx808 qr808 => ?_
  refine gor hn ?_
  refine lenM (fun hl3 => ?_)
  refine qn808 _ _ ?_
  refine COk.rng 21 rfl (fun hrn => ?_)
  obtain ⟨o8, h9, h⟩ := bindM h
  refine COk.joinR (ι := { s : (List Int) // o8 = s }) (fun s => [(1, .ptr 1 0), (3, .ptr 3 0), (4, .own 19)]) (fun s => [(1, .box (eMe a0) 64), (3, .box [.int (0 : Int), .int (0 : Int)] 95), (19, .row 1 (List.map eInt s.1) 3)]) (fun Q830 qn830 qx830 qr830 => ?_) (by intro s; rw [hn]; rfl) ?_
  · refine COk.blkQ fun Q831 qn831 qe831 qx831 qr831 => ?_
    refine COk.loopQ (ι := { q : (Nat × Nat × (List Int)) // q.1 = (((List.replicate (a0.code.length : Int).toNat (0 : Int)).length : Int) - (q.2.1 : Int)).toNat ∧ qcref1_Heights_l1 N q.1 q.2.1 q.2.2 = some o8 }) (fun q => [(1, .ptr 1 0), (3, .ptr 3 0), (4, .own 19), (21, .int ((List.replicate (a0.code.length : Int).toNat (0 : Int)).length : Int)), (22, .int (q.1.2.1 : Int))]) (fun q => [(1, .box (eMe a0) 64), (3, .box [.int (0 : Int), .int (0 : Int)] 95), (19, .row 1 (List.map eInt q.1.2.2) 3)]) (fun q => q.1.1) ⟨((((List.replicate (a0.code.length : Int).toNat (0 : Int)).length : Int) - ((0 : Nat) : Int)).toNat, 0, (List.replicate (a0.code.length : Int).toNat (0 : Int))), rfl, h9⟩ [] ⟨⟨rfl, rfl, rfl, rfl, rfl, trivial⟩, ⟨rfl, rfl, rfl, trivial⟩, rfl, rfl⟩ (by intro q; rw [hn]; rfl) ?_
    rintro ⟨⟨n_, k4, v5⟩, hd11, h9⟩ Q832 qn832 qx832 qr832
    replace hd11 : n_ = (((List.replicate (a0.code.length : Int).toNat (0 : Int)).length : Int) - (k4 : Int)).toNat := hd11
    rcases n_ with _ | n12
    · have hlt15 := upNil hd11
      replace h9 := (qcref1_Heights_l1.eq_1 _ _ _).symm.trans h9
      refine COk.seqQ fun Q833 qn833 qx833 qr833 => ?_
      refine gor hn ?_
      refine qn833 _ _ ?_
      refine COk.seqQ fun Q834 qn834 qx834 qr834 => ?_
      refine goc hn ?_
      refine bselF hlt15 ?_
      refine goe hn ?_
      refine qx834 _ _ _ ?_
      refine qx832 _ _ _ ?_
      refine qe831 _ _ ?_
      refine qn830 _ _ ?_
      obtain rfl := Option.some.inj h9
      refine EOk.done ?_
      exact ⟨⟨_, rfl⟩, [], trivial, ⟨⟨rfl, rfl, rfl, trivial⟩, ⟨rfl, rfl, rfl, trivial⟩, rfl, rfl⟩⟩
    · obtain ⟨hd2, hlt15⟩ := upCons hd11
      replace h9 := (qcref1_Heights_l1.eq_2 _ _ _ _).symm.trans h9
      refine COk.seqQ fun Q835 qn835 qx835 qr835 => ?_
      refine gor hn ?_
      refine qn835 _ _ ?_
      refine COk.seqQ fun Q836 qn836 qx836 qr836 => ?_
      refine goc hn ?_
      refine bselT hlt15 ?_
      refine gok hn ?_
      refine qn836 _ _ ?_
      refine COk.seqQ fun Q837 qn837 qx837 qr837 => ?_
      refine COk.blkQ fun Q840 qn840 qe840 qx840 qr840 => ?_
      refine COk.seqQ fun Q841 qn841 qx841 qr841 => ?_
      refine gor hn ?_
      refine qn841 _ _ ?_
      refine gor hn ?_
      obtain ⟨x16, hx17, h9⟩ := bindM h9
      refine ownM hx17 ?_
      refine ldM (nthO_some hx17).2 ?_
      refine Exists.intro (List.map eInt (v5.set ((k4 : Int).toNat) (-1 : Int))) (And.intro (leLs_set (nthO_some hx17).2 (by repeat (first | exact trivial | exact rfl | (refine And.intro ?_ ?_)))) ?_)
      refine qn840 _ _ ?_
      refine qn837 _ _ ?_
      refine gor hn ?_
      refine Or.inl (And.intro (inrU hlt15 hrn) ?_)
      refine qn832 _ _ ?_
      refine EOk.done ?_
      exact ⟨⟨(n12, k4 + 1, (v5.set ((k4 : Int).toNat) (-1 : Int))), hd2, h9⟩, [], by show n12 < n12 + 1; omega, ⟨⟨rfl, rfl, rfl, rfl, rfl, trivial⟩, ⟨rfl, rfl, rfl, trivial⟩, rfl, rfl⟩⟩
  rintro ⟨v7, hv_⟩
  replace hv_ := hv_.symm
  subst hv_
  refine qn807 _ _ ?_
  refine COk.seqQ fun Q842 qn842 qx842 qr842 => ?_
  refine gor hn ?_
  refine Exists.intro (List.map eInt [(0 : Int)]) (And.intro (by repeat (first | exact trivial | exact rfl | (refine And.intro ?_ ?_))) ?_)
  refine Exists.intro (List.map eInt [(0 : Int)]) (And.intro (by repeat (first | exact trivial | exact rfl | (refine And.intro ?_ ?_))) ?_)
  refine qn842 _ _ ?_
  refine COk.seqQ fun Q843 qn843 qx843 qr843 => ?_
  refine COk.seqQ fun Q844 qn844 qx844 qr844 => ?_
  refine gor hn ?_
  refine qn844 _ _ ?_
  obtain ⟨o28, h29, h⟩ := bindM h
  refine COk.joinR (ι := { s : (List Int) // o28 = Ctl.next s }) (fun s => [(3, .ptr 3 0), (4, .own 19)]) (fun s => [(3, .box [.int (0 : Int), .int (0 : Int)] 95), (19, .row 1 (List.map eInt s.1) 3)]) (fun Q1415 qn1415 qx1415 qr1415 => ?_) (by intro s; rw [hn]; rfl) ?_
  · refine COk.blkQ fun Q1416 qn1416 qe1416 qx1416 qr1416 => ?_
    refine COk.loopQ (ι := { q : (Nat × (List Int) × (List Int) × (List Int) × Int) // qcref1_Heights_l2 N a0 q.1 q.2.1 q.2.2.1 q.2.2.2.1 q.2.2.2.2 = some o28 }) (fun q => [(1, .ptr 1 0), (3, .ptr 3 0), (4, .own 19), (6, .own 29), (7, .own 30), (8, .int q.1.2.2.2.2)]) (fun q => [(1, .box (eMe a0) 64), (3, .box [.int (0 : Int), .int (0 : Int)] 95), (19, .row 1 (List.map eInt q.1.2.1) 3), (29, .row 1 (List.map eInt q.1.2.2.1) 3), (30, .row 1 (List.map eInt q.1.2.2.2.1) 3)]) (fun q => q.1.1) ⟨(N, v7, [(0 : Int)], [(0 : Int)], (0 : Int)), h29⟩ [] ⟨⟨rfl, rfl, rfl, rfl, rfl, rfl, trivial⟩, ⟨rfl, rfl, rfl, rfl, rfl, trivial⟩, rfl, rfl⟩ (by intro q; rw [hn]; rfl) ?_
    rintro ⟨⟨n_, v19, v20, v21, v22⟩, h29⟩ Q1417 qn1417 qx1417 qr1417
    rcases n_ with _ | n32
    · rw [qcref1_Heights_l2.eq_1] at h29
      cases h29
    · replace h29 := (qcref1_Heights_l2.eq_2 _ _ _ _ _ _ _).symm.trans h29
      refine COk.seqQ fun Q1418 qn1418 qx1418 qr1418 => ?_
      refine COk.seqQ fun Q1419 qn1419 qx1419 qr1419 => ?_
      refine gor hn ?_
      refine lenM (fun hl33 => ?_)
      refine qn1419 _ _ ?_
      refine goc hn ?_
      refine bselM h29 (fun hb34 h29 => ?_) (fun hb34 h29 => ?_)
      · refine gok hn ?_
        refine qn1418 _ _ ?_
        refine COk.seqQ fun Q1420 qn1420 qx1420 qr1420 => ?_
        obtain ⟨o39, h38, h29⟩ := bindM h29
        refine COk.joinR (ι := { s : ((List Int) × (List Int) × (List Int)) // o39 = Ctl.next s }) (fun s => [(1, .ptr 1 0), (3, .ptr 3 0), (4, .own 19), (6, .own 29), (7, .own 30), (8, .int v22)]) (fun s => [(1, .box (eMe a0) 64), (3, .box [.int (0 : Int), .int (0 : Int)] 95), (19, .row 1 (List.map eInt s.1.1) 3), (29, .row 1 (List.map eInt s.1.2.1) 3), (30, .row 1 (List.map eInt s.1.2.2) 3)]) (fun Q1545 qn1545 qx1545 qr1545 => ?_) (by intro s; rw [hn]; rfl) ?_
        · refine COk.blkQ fun Q1546 qn1546 qe1546 qx1546 qr1546 => ?_
          refine COk.seqQ fun Q1547 qn1547 qx1547 qr1547 => ?_
          refine god hn (by kernel_rfl) ?_
          obtain ⟨x40, hx41, h38⟩ := bindM h38
          refine ownM hx41 ?_
          refine ldM (nthO_some hx41).2 ?_
          obtain ⟨x42, hx43, h38⟩ := bindM h38
          refine ownM hx43 ?_
          refine ldM (nthO_some hx43).2 ?_
          refine qn1547 _ _ ?_
          refine COk.seqQ fun Q1548 qn1548 qx1548 qr1548 => ?_
          refine COk.seqQ fun Q1549 qn1549 qx1549 qr1549 => ?_
          obtain ⟨o46, h45, h38⟩ := bindM h38
          refine COk.joinR (ι := { s : Bool // o46 = s }) (fun s => [(1, .ptr 1 0), (3, .ptr 3 0), (4, .own 19), (6, .own 29), (7, .own 30), (8, .int v22), (9, .int x40), (10, .int x42), (53, .bool s.1)]) (fun s => [(1, .box (eMe a0) 64), (3, .box [.int (0 : Int), .int (0 : Int)] 95), (19, .row 1 (List.map eInt v19) 3), (29, .row 1 (List.map eInt v20) 3), (30, .row 1 (List.map eInt v21) 3)]) (fun Q1550 qn1550 qx1550 qr1550 => ?_) (by intro s; rw [hn]; rfl) ?_
          · refine COk.sub (ts2 := [(1, .ptr 1 0), (3, .ptr 3 0), (4, .own 19), (6, .own 29), (7, .own 30), (8, .int v22), (9, .int x40), (10, .int x42)]) (os2 := [(1, .box (eMe a0) 64), (3, .box [.int (0 : Int), .int (0 : Int)] 95), (19, .row 1 (List.map eInt v19) 3), (29, .row 1 (List.map eInt v20) 3), (30, .row 1 (List.map eInt v21) 3)]) [] ⟨⟨rfl, rfl, rfl, rfl, rfl, rfl, rfl, rfl, trivial⟩, ⟨rfl, rfl, rfl, rfl, rfl, trivial⟩, rfl, rfl⟩ (by rw [hn]; rfl) ?_
            refine gor hn ?_
            refine lenM (fun hl47 => ?_)
            refine bselM h45 (fun hb48 h45 => ?_) (fun hb48 h45 => ?_)
            · refine bselT hb48 ?_
              refine bselT hb48 ?_
              refine qn1550 _ _ ?_
              obtain rfl := Option.some.inj h45
              refine EOk.done ?_
              exact ⟨⟨_, rfl⟩, [], trivial, ⟨⟨rfl, rfl, rfl, rfl, rfl, rfl, rfl, rfl, rfl, trivial⟩, ⟨rfl, rfl, rfl, rfl, rfl, trivial⟩, rfl, rfl⟩⟩
            · refine bselF hb48 ?_
              refine bselF hb48 ?_
              refine qn1550 _ _ ?_
              obtain rfl := Option.some.inj h45
              refine EOk.done ?_
              exact ⟨⟨_, rfl⟩, [], trivial, ⟨⟨rfl, rfl, rfl, rfl, rfl, rfl, rfl, rfl, rfl, trivial⟩, ⟨rfl, rfl, rfl, rfl, rfl, trivial⟩, rfl, rfl⟩⟩
          rintro ⟨v44, hv_⟩
          replace hv_ := hv_.symm
          subst hv_
          refine qn1549 _ _ ?_
          refine goc hn ?_
          refine bselM h38 (fun hb49 h38 => ?_) (fun hb49 h38 => ?_)
          · refine COk.seqQ fun Q1552 qn1552 qx1552 qr1552 => ?_
            refine god hn (by kernel_rfl) ?_
            refine lenM (fun hl50 => ?_)
            refine qn1552 _ _ ?_
            refine COk.nilrow 2 202 1 3 rfl rfl rfl ?_
            refine got hn ?_
            refine qr1548 _ _ ?_
            refine qr1546 _ _ ?_
            refine qr1545 _ _ ?_
            refine qr1420 _ _ ?_
            refine qr1417 _ _ ?_
            refine qr1416 _ _ ?_
            refine qr1415 _ _ ?_
            refine qr843 _ _ ?_
            obtain rfl := Option.some.inj h38
            obtain rfl := Option.some.inj h29
            obtain rfl := Option.some.inj h
            exact ⟨[(0, 202)], _, rfl, (by repeat (first | exact trivial | exact rfl | (refine And.intro ?_ ?_))), ⟨rfl, trivial⟩, rfl, rfl, rfl, rfl, rfl⟩
          · refine gok hn ?_
            refine qn1548 _ _ ?_
            refine COk.seqQ fun Q1553 qn1553 qx1553 qr1553 => ?_
            refine COk.seqQ fun Q1554 qn1554 qx1554 qr1554 => ?_
            refine gor hn ?_
            obtain ⟨x51, hx52, h38⟩ := bindM h38
            refine ownM hx52 ?_
            refine ldM (nthO_some hx52).2 ?_
            refine qn1554 _ _ ?_
            refine goc hn ?_
            refine bselM h38 (fun hb53 h38 => ?_) (fun hb53 h38 => ?_)
            · refine COk.seqQ fun Q1559 qn1559 qx1559 qr1559 => ?_
              refine COk.seqQ fun Q1560 qn1560 qx1560 qr1560 => ?_
              refine gor hn ?_
              obtain ⟨x54, hx55, h38⟩ := bindM h38
              refine ownM hx55 ?_
              refine ldM (nthO_some hx55).2 ?_
              refine qn1560 _ _ ?_
              refine goc hn ?_
              refine bselM h38 (fun hb56 h38 => ?_) (fun hb56 h38 => ?_)
              · refine COk.seqQ fun Q1562 qn1562 qx1562 qr1562 => ?_
                refine COk.sub (ts2 := [(3, .ptr 3 0), (9, .int x40)]) (os2 := [(3, .box [.int (0 : Int), .int (0 : Int)] 95)]) [] ⟨⟨rfl, rfl, trivial⟩, ⟨rfl, trivial⟩, rfl, rfl⟩ (by rw [hn]; rfl) ?_
                refine gor hn ?_
                refine qn1562 _ _ ?_
                refine COk.nilrow 2 202 1 3 rfl rfl rfl ?_
                refine got hn ?_
                refine qr1559 _ _ ?_
                refine qr1553 _ _ ?_
                refine qr1546 _ _ ?_
                refine qr1545 _ _ ?_
                refine qr1420 _ _ ?_
                refine qr1417 _ _ ?_
                refine qr1416 _ _ ?_
                refine qr1415 _ _ ?_
                refine qr843 _ _ ?_
                obtain rfl := Option.some.inj h38
                obtain rfl := Option.some.inj h29
                obtain rfl := Option.some.inj h
                exact ⟨[(0, 202)], _, rfl, (by repeat (first | exact trivial | exact rfl | (refine And.intro ?_ ?_))), ⟨rfl, trivial⟩, rfl, rfl, rfl, rfl, rfl⟩
              · refine gok hn ?_
                refine qn1559 _ _ ?_
                refine goe hn ?_
                refine qx1553 _ _ _ ?_
                refine qe1546 _ _ ?_
                refine qn1545 _ _ ?_
                obtain rfl := Option.some.inj h38
                refine EOk.done ?_
                exact ⟨⟨_, rfl⟩, [], trivial, ⟨⟨rfl, rfl, rfl, rfl, rfl, rfl, trivial⟩, ⟨rfl, rfl, rfl, rfl, rfl, trivial⟩, rfl, rfl⟩⟩
            · refine gok hn ?_
              refine qn1553 _ _ ?_
              refine COk.seqQ fun Q1563 qn1563 qx1563 qr1563 => ?_
              refine gor hn ?_
              obtain ⟨x57, hx58, h38⟩ := bindM h38
              refine ownM hx58 ?_
              refine ldM (nthO_some hx58).2 ?_
              refine Exists.intro (List.map eInt (v19.set x40.toNat x42)) (And.intro (leLs_set (nthO_some hx58).2 (by repeat (first | exact trivial | exact rfl | (refine And.intro ?_ ?_)))) ?_)
              refine qn1563 _ _ ?_
              refine COk.seqQ fun Q1564 qn1564 qx1564 qr1564 => ?_
              refine COk.sub (ts2 := [(1, .ptr 1 0), (3, .ptr 3 0), (4, .own 19), (6, .own 29), (7, .own 30), (8, .int v22), (9, .int x40), (10, .int x42)]) (os2 := [(1, .box (eMe a0) 64), (3, .box [.int (0 : Int), .int (0 : Int)] 95), (19, .row 1 (List.map eInt (v19.set x40.toNat x42)) 3), (29, .row 1 (List.map eInt v20) 3), (30, .row 1 (List.map eInt v21) 3)]) [] ⟨⟨rfl, rfl, rfl, rfl, rfl, rfl, rfl, rfl, trivial⟩, ⟨rfl, rfl, rfl, rfl, rfl, trivial⟩, rfl, rfl⟩ (by rw [hn]; rfl) ?_
              refine gor hn ?_
              obtain ⟨x59, hx60, h38⟩ := bindM h38
              refine idxM hx60 ?_
              obtain ⟨r61, hr62, h38⟩ := bindM h38
              show CallOk Try.prog _ _ _ _
              refine CallOk.as ((qcref1_Next_ok N x59 x40 r61 hr62).sw 0 82) (by repeat (first | exact trivial | exact rfl | (refine And.intro ?_ ?_))) trivial rfl ?_
              refine qn1564 _ _ ?_
              refine COk.seqQ fun Q1565 qn1565 qx1565 qr1565 => ?_
              refine COk.seqQ fun Q1566 qn1566 qx1566 qr1566 => ?_
              obtain ⟨o65, h64, h38⟩ := bindM h38
              refine COk.joinR (ι := { s : Bool // o65 = s }) (fun s => [(1, .ptr 1 0), (3, .ptr 3 0), (4, .own 19), (6, .own 29), (7, .own 30), (8, .int v22), (9, .int x40), (10, .int x42), (12, .int r61.2.1), (13, .own 82), (101, .bool s.1)]) (fun s => [(1, .box (eMe a0) 64), (3, .box [.int (0 : Int), .int (0 : Int)] 95), (19, .row 1 (List.map eInt (v19.set x40.toNat x42)) 3), (29, .row 1 (List.map eInt v20) 3), (30, .row 1 (List.map eInt v21) 3), (82, .row 1 (List.map eInt r61.2.2) 3)]) (fun Q1567 qn1567 qx1567 qr1567 => ?_) (by intro s; rw [hn]; rfl) ?_
              · refine COk.sub (ts2 := [(1, .ptr 1 0), (3, .ptr 3 0), (4, .own 19), (6, .own 29), (7, .own 30), (8, .int v22), (9, .int x40), (10, .int x42), (11, .int r61.1), (12, .int r61.2.1), (13, .own 82)]) (os2 := [(1, .box (eMe a0) 64), (3, .box [.int (0 : Int), .int (0 : Int)] 95), (19, .row 1 (List.map eInt (v19.set x40.toNat x42)) 3), (29, .row 1 (List.map eInt v20) 3), (30, .row 1 (List.map eInt v21) 3), (82, .row 1 (List.map eInt r61.2.2) 3)]) [] ⟨⟨rfl, rfl, rfl, rfl, rfl, rfl, rfl, rfl, rfl, rfl, rfl, trivial⟩, ⟨rfl, rfl, rfl, rfl, rfl, rfl, trivial⟩, rfl, rfl⟩ (by rw [hn]; rfl) ?_
                refine gor hn ?_
                refine bselM h64 (fun hb66 h64 => ?_) (fun hb66 h64 => ?_)
                · refine bselT hb66 ?_
                  refine bselT hb66 ?_
                  refine bselT hb66 ?_
                  refine bselT hb66 ?_
                  refine bselT hb66 ?_
                  refine bselT hb66 ?_
                  refine bselT hb66 ?_
                  refine bselT hb66 ?_
                  refine bselT hb66 ?_
                  refine qn1567 _ _ ?_
                  obtain rfl := Option.some.inj h64
                  refine EOk.done ?_
                  exact ⟨⟨_, rfl⟩, [], trivial, ⟨⟨rfl, rfl, rfl, rfl, rfl, rfl, rfl, rfl, rfl, rfl, rfl, trivial⟩, ⟨rfl, rfl, rfl, rfl, rfl, rfl, trivial⟩, rfl, rfl⟩⟩
                · refine bselF hb66 ?_
                  refine bselF hb66 ?_
                  refine bselF hb66 ?_
                  obtain ⟨x67, hx68, h64⟩ := bindM h64
                  refine idxM hx68 ?_
                  refine bselF hb66 ?_
                  refine bselF hb66 ?_
                  refine bselF hb66 ?_
                  refine bselF hb66 ?_
                  refine bselM h64 (fun hb69 h64 => ?_) (fun hb69 h64 => ?_)
                  · refine bselT hb69 ?_
                    refine bselF hb66 ?_
                    refine bselT hb69 ?_
                    refine bselF hb66 ?_
                    refine qn1567 _ _ ?_
                    obtain rfl := Option.some.inj h64
                    refine EOk.done ?_
                    exact ⟨⟨_, rfl⟩, [], trivial, ⟨⟨rfl, rfl, rfl, rfl, rfl, rfl, rfl, rfl, rfl, rfl, rfl, trivial⟩, ⟨rfl, rfl, rfl, rfl, rfl, rfl, trivial⟩, rfl, rfl⟩⟩
                  · refine bselF hb69 ?_
                    refine bselF hb66 ?_
                    refine bselF hb69 ?_
                    refine bselF hb66 ?_
                    refine qn1567 _ _ ?_
                    obtain rfl := Option.some.inj h64
                    refine EOk.done ?_
                    exact ⟨⟨_, rfl⟩, [], trivial, ⟨⟨rfl, rfl, rfl, rfl, rfl, rfl, rfl, rfl, rfl, rfl, rfl, trivial⟩, ⟨rfl, rfl, rfl, rfl, rfl, rfl, trivial⟩, rfl, rfl⟩⟩
              rintro ⟨v63, hv_⟩
              replace hv_ := hv_.symm
              subst hv_
              refine qn1566 _ _ ?_
              refine goc hn ?_
              refine bselM h38 (fun hb70 h38 => ?_) (fun hb70 h38 => ?_)
              · refine COk.seqQ fun Q1569 qn1569 qx1569 qr1569 => ?_
                refine gor hn ?_
                refine qn1569 _ _ ?_
                refine COk.nilrow 2 202 1 3 rfl rfl rfl ?_
                refine got hn ?_
                refine qr1565 _ _ ?_
                refine qr1546 _ _ ?_
                refine qr1545 _ _ ?_
                refine qr1420 _ _ ?_
                refine qr1417 _ _ ?_
                refine qr1416 _ _ ?_
                refine qr1415 _ _ ?_
                refine qr843 _ _ ?_
                obtain rfl := Option.some.inj h38
                obtain rfl := Option.some.inj h29
                obtain rfl := Option.some.inj h
                exact ⟨[(0, 202)], _, rfl, (by repeat (first | exact trivial | exact rfl | (refine And.intro ?_ ?_))), ⟨rfl, trivial⟩, rfl, rfl, rfl, rfl, rfl⟩
              · refine gok hn ?_
                refine qn1565 _ _ ?_
                refine COk.seqQ fun Q1570 qn1570 qx1570 qr1570 => ?_
                refine COk.seqQ fun Q1571 qn1571 qx1571 qr1571 => ?_
                refine gor hn ?_
                refine Or.inr ?_
                refine qn1571 _ _ ?_
                refine goc hn ?_
                refine bselM h38 (fun hb71 h38 => ?_) (fun hb71 h38 => ?_)
                · refine COk.seqQ fun Q1573 qn1573 qx1573 qr1573 => ?_
                  refine gor hn ?_
                  refine qn1573 _ _ ?_
                  refine COk.nilrow 2 202 1 3 rfl rfl rfl ?_
                  refine got hn ?_
                  refine qr1570 _ _ ?_
                  refine qr1546 _ _ ?_
                  refine qr1545 _ _ ?_
                  refine qr1420 _ _ ?_
                  refine qr1417 _ _ ?_
                  refine qr1416 _ _ ?_
                  refine qr1415 _ _ ?_
                  refine qr843 _ _ ?_
                  obtain rfl := Option.some.inj h38
                  obtain rfl := Option.some.inj h29
                  obtain rfl := Option.some.inj h
                  exact ⟨[(0, 202)], _, rfl, (by repeat (first | exact trivial | exact rfl | (refine And.intro ?_ ?_))), ⟨rfl, trivial⟩, rfl, rfl, rfl, rfl, rfl⟩
                · refine gok hn ?_
                  refine qn1570 _ _ ?_
                  refine COk.seqQ fun Q1574 qn1574 qx1574 qr1574 => ?_
                  refine gor hn ?_
                  refine lenM (fun hl72 => ?_)
                  refine qn1574 _ _ ?_
                  obtain ⟨o80, h81, h38⟩ := bindM h38
                  refine COk.joinR (ι := { s : ((List Int) × (List Int)) // o80 = s }) (fun s => [(1, .ptr 1 0), (3, .ptr 3 0), (4, .own 19), (6, .own 29), (7, .own 30), (8, .int v22)]) (fun s => [(1, .box (eMe a0) 64), (3, .box [.int (0 : Int), .int (0 : Int)] 95), (19, .row 1 (List.map eInt (v19.set x40.toNat x42)) 3), (29, .row 1 (List.map eInt s.1.1) 3), (30, .row 1 (List.map eInt s.1.2) 3)]) (fun Q1596 qn1596 qx1596 qr1596 => ?_) (by intro s; rw [hn]; rfl) ?_
                  · refine COk.blkQ fun Q1597 qn1597 qe1597 qx1597 qr1597 => ?_
                    refine COk.loopQ (ι := { q : ((List Int) × Nat × (List Int) × (List Int)) // q.1 = r61.2.2.drop q.2.1 ∧ qcref1_Heights_l3 N x42 r61 q.1 q.2.1 q.2.2.1 q.2.2.2 = some o80 }) (fun q => [(1, .ptr 1 0), (3, .ptr 3 0), (4, .own 19), (6, .own 29), (7, .own 30), (8, .int v22), (10, .int x42), (12, .int r61.2.1), (110, .own 82), (111, .int (r61.2.2.length : Int)), (112, .int (q.1.2.1 : Int))]) (fun q => [(1, .box (eMe a0) 64), (3, .box [.int (0 : Int), .int (0 : Int)] 95), (19, .row 1 (List.map eInt (v19.set x40.toNat x42)) 3), (29, .row 1 (List.map eInt q.1.2.2.1) 3), (30, .row 1 (List.map eInt q.1.2.2.2) 3), (82, .row 1 (List.map eInt r61.2.2) 3)]) (fun q => q.1.1.length) ⟨(r61.2.2, 0, v20, v21), rfl, h81⟩ [] ⟨⟨rfl, rfl, rfl, rfl, rfl, rfl, rfl, rfl, rfl, rfl, rfl, trivial⟩, ⟨rfl, rfl, rfl, rfl, rfl, rfl, trivial⟩, rfl, rfl⟩ (by intro q; rw [hn]; rfl) ?_
                    rintro ⟨⟨rest_, k73, v74, v75⟩, hd83, h81⟩ Q1598 qn1598 qx1598 qr1598
                    replace hd83 : rest_ = r61.2.2.drop k73 := hd83
                    rcases rest_ with _ | ⟨x85, rest82⟩
                    · have hlt87 := restNil hd83
                      replace h81 := (qcref1_Heights_l3.eq_1 _ _ _ _ _ _).symm.trans h81
                      refine COk.seqQ fun Q1599 qn1599 qx1599 qr1599 => ?_
                      refine gor hn ?_
                      refine qn1599 _ _ ?_
                      refine COk.seqQ fun Q1600 qn1600 qx1600 qr1600 => ?_
                      refine goc hn ?_
                      refine bselF hlt87 ?_
                      refine goe hn ?_
                      refine qx1600 _ _ _ ?_
                      refine qx1598 _ _ _ ?_
                      refine qe1597 _ _ ?_
                      refine qn1596 _ _ ?_
                      obtain rfl := Option.some.inj h81
                      refine EOk.done ?_
                      exact ⟨⟨_, rfl⟩, [], trivial, ⟨⟨rfl, rfl, rfl, rfl, rfl, rfl, trivial⟩, ⟨rfl, rfl, rfl, rfl, rfl, trivial⟩, rfl, rfl⟩⟩
                    · obtain ⟨hx86, hd2, hlt87⟩ := restCons hd83
                      replace h81 := (qcref1_Heights_l3.eq_2 _ _ _ _ _ _ _ _).symm.trans h81
                      refine COk.seqQ fun Q1601 qn1601 qx1601 qr1601 => ?_
                      refine gor hn ?_
                      refine qn1601 _ _ ?_
                      refine COk.seqQ fun Q1602 qn1602 qx1602 qr1602 => ?_
                      refine goc hn ?_
                      refine bselT hlt87 ?_
                      refine gok hn ?_
                      refine qn1602 _ _ ?_
                      refine COk.seqQ fun Q1603 qn1603 qx1603 qr1603 => ?_
                      refine COk.blkQ fun Q1606 qn1606 qe1606 qx1606 qr1606 => ?_
                      refine COk.seqQ fun Q1607 qn1607 qx1607 qr1607 => ?_
                      refine gor hn ?_
                      obtain ⟨x88, hx89, h81⟩ := bindM h81
                      refine ownM hx89 ?_
                      refine ldM (nthO_some hx89).2 ?_
                      refine qn1607 _ _ ?_
                      refine gor hn ?_
                      refine Exists.intro (List.map eInt [x88]) (And.intro (by repeat (first | exact trivial | exact rfl | (refine And.intro ?_ ?_))) ?_)
                      obtain ⟨hg90, h81⟩ := guardM h81
                      refine appM (l2 := [x88]) hg90 (leLs_refl _) ?_
                      refine Or.inr ?_
                      refine Exists.intro (List.map eInt [(wr (x42 + r61.2.1))]) (And.intro (by repeat (first | exact trivial | exact rfl | (refine And.intro ?_ ?_))) ?_)
                      obtain ⟨hg91, h81⟩ := guardM h81
                      refine appM (l2 := [(wr (x42 + r61.2.1))]) hg91 (leLs_refl _) ?_
                      refine qn1606 _ _ ?_
                      refine qn1603 _ _ ?_
                      refine COk.sub (ts2 := [(1, .ptr 1 0), (3, .ptr 3 0), (4, .own 19), (6, .own 119), (7, .own 125), (8, .int v22), (10, .int x42), (12, .int r61.2.1), (110, .own 82), (111, .int (r61.2.2.length : Int)), (112, .int (k73 : Int))]) (os2 := [(1, .box (eMe a0) 64), (3, .box [.int (0 : Int), .int (0 : Int)] 95), (19, .row 1 (List.map eInt (v19.set x40.toNat x42)) 3), (82, .row 1 (List.map eInt r61.2.2) 3), (119, .row 1 (List.map eInt (v74 ++ [x88])) 3), (125, .row 1 (List.map eInt (v75 ++ [(wr (x42 + r61.2.1))])) 3)]) [] ⟨⟨rfl, rfl, rfl, rfl, rfl, rfl, rfl, rfl, rfl, rfl, rfl, trivial⟩, ⟨rfl, rfl, rfl, rfl, rfl, rfl, trivial⟩, rfl, rfl⟩ (by rw [hn]; rfl) ?_
                      refine gor hn ?_
                      refine Or.inl (And.intro (inrK hx86 hl72) ?_)
                      refine qn1598 _ _ ?_
                      refine EOk.done ?_
                      exact ⟨⟨(rest82, k73 + 1, (v74 ++ [x88]), (v75 ++ [(wr (x42 + r61.2.1))])), hd2, h81⟩, [(29, 119), (30, 125)], by show rest82.length < rest82.length + 1; omega, ⟨⟨rfl, rfl, rfl, rfl, rfl, rfl, rfl, rfl, rfl, rfl, rfl, trivial⟩, ⟨rfl, rfl, rfl, rfl, rfl, rfl, trivial⟩, rfl, rfl⟩⟩
                  rintro ⟨⟨v78, v79⟩, rfl⟩
                  refine qn1546 _ _ ?_
                  refine qn1545 _ _ ?_
                  obtain rfl := Option.some.inj h38
                  refine EOk.done ?_
                  exact ⟨⟨_, rfl⟩, [], trivial, ⟨⟨rfl, rfl, rfl, rfl, rfl, rfl, trivial⟩, ⟨rfl, rfl, rfl, rfl, rfl, trivial⟩, rfl, rfl⟩⟩
        rintro ⟨⟨v35, v36, v37⟩, rfl⟩
        refine qn1420 _ _ ?_
        refine gor hn ?_
        refine Or.inr ?_
        refine qn1417 _ _ ?_
        refine EOk.done ?_
        exact ⟨⟨(n32, v35, v36, v37, (wr (v22 + (1 : Int)))), h29⟩, [], by show n32 < n32 + 1; omega, ⟨⟨rfl, rfl, rfl, rfl, rfl, rfl, trivial⟩, ⟨rfl, rfl, rfl, rfl, rfl, trivial⟩, rfl, rfl⟩⟩
      · refine goe hn ?_
        refine qx1418 _ _ _ ?_
        refine qx1417 _ _ _ ?_
        refine qe1416 _ _ ?_
        refine qn1415 _ _ ?_
        obtain rfl := Option.some.inj h29
        refine EOk.done ?_
        exact ⟨⟨_, rfl⟩, [], trivial, ⟨⟨rfl, rfl, trivial⟩, ⟨rfl, rfl, trivial⟩, rfl, rfl⟩⟩
  rintro ⟨v27, rfl⟩
  refine qn843 _ _ ?_
  refine COk.seqQ fun Q1608 qn1608 qx1608 qr1608 => ?_
  refine gor hn ?_
  refine qn1608 _ _ ?_
  refine got hn ?_
  obtain rfl := Option.some.inj h
  exact ⟨[(0, 19)], _, rfl, (by repeat (first | exact trivial | exact rfl | (refine And.intro ?_ ?_))), ⟨rfl, trivial⟩, rfl, rfl, rfl, rfl, rfl⟩

/- qcref1.Check -/
set_option maxRecDepth 100000 in
set_option maxHeartbeats 1000000 in
theorem qcref1_Check_ok (N : Nat) (a0 : Wd) (a1 : Int) (a2 : Me) (r : TFault) (h : qcref1_Check N a0 a1 a2 = some r) : Spec Try.prog 54 [] [.agg (eWd a0), .int a1, .agg (eMe a2)] (.agg (eTFault r)) [] [] := by
  refine Spec.of tabOk Try.func54 rfl Try.ntmps54 (by kernel_rfl) rfl rfl rfl fun Γ hn => ?_
  unfold qcref1_Check at h
  refine COk.seqQ fun Q79 qn79 qx79 qr79 => ?_
  refine gor hn ?_
  refine qn79 _ _ ?_
  refine COk.seqQ fun Q80 qn80 qx80 qr80 => ?_
  refine COk.seqQ fun Q81 qn81 qx81 qr81 => ?_
  obtain ⟨o3, h2, h⟩ := bindM h
  refine COk.joinR (ι := { s : Bool // o3 = s }) (fun s => [(1, .int a1), (3, .ptr 3 0), (5, .ptr 5 0), (6, .ptr 6 0), (20, .bool s.1)]) (fun s => [(3, .box (eWd a0) 26), (5, .box (eMe a2) 64), (6, .box [.int (0 : Int), .int (0 : Int)] 95)]) (fun Q82 qn82 qx82 qr82 => ?_) (by intro s; rw [hn]; rfl) ?_
  · refine gor hn ?_
    refine bselM h2 (fun hb4 h2 => ?_) (fun hb4 h2 => ?_)
    · refine bselT hb4 ?_
      refine bselT hb4 ?_
      refine bselT hb4 ?_
      refine bselT hb4 ?_
      refine bselT hb4 ?_
      refine qn82 _ _ ?_
      obtain rfl := Option.some.inj h2
      refine EOk.done ?_
      exact ⟨⟨_, rfl⟩, [], trivial, ⟨⟨rfl, rfl, rfl, rfl, rfl, trivial⟩, ⟨rfl, rfl, rfl, trivial⟩, rfl, rfl⟩⟩
    · refine bselF hb4 ?_
      refine bselF hb4 ?_
      refine bselF hb4 ?_
      refine lenM (fun hl5 => ?_)
      refine bselF hb4 ?_
      refine bselF hb4 ?_
      refine qn82 _ _ ?_
      obtain rfl := Option.some.inj h2
      refine EOk.done ?_
      exact ⟨⟨_, rfl⟩, [], trivial, ⟨⟨rfl, rfl, rfl, rfl, rfl, trivial⟩, ⟨rfl, rfl, rfl, trivial⟩, rfl, rfl⟩⟩
  rintro ⟨v1, hv_⟩
  replace hv_ := hv_.symm
  subst hv_
  refine qn81 _ _ ?_
  refine goc hn ?_
  refine bselM h (fun hb6 h => ?_) (fun hb6 h => ?_)
  · refine COk.seqQ fun Q84 qn84 qx84 qr84 => ?_
    refine gor hn ?_
    refine qn84 _ _ ?_
    refine got hn ?_
    refine qr80 _ _ ?_
    obtain rfl := Option.some.inj h
    exact ⟨[], _, rfl, (by repeat (first | exact trivial | exact rfl | (refine And.intro ?_ ?_))), trivial, rfl, rfl, rfl, rfl, rfl⟩
  · refine gok hn ?_
    refine qn80 _ _ ?_
    refine COk.seqQ fun Q85 qn85 qx85 qr85 => ?_
    refine COk.seqQ fun Q86 qn86 qx86 qr86 => ?_
    refine gor hn ?_
    obtain ⟨r7, hr8, h⟩ := bindM h
    show CallOk Try.prog _ _ _ _
    refine CallOk.as (qcref1_Name_ok N a2.name r7 hr8) (by repeat (first | exact trivial | exact rfl | (refine And.intro ?_ ?_))) trivial rfl ?_
    refine qn86 _ _ ?_
    refine goc hn ?_
    refine bselM h (fun hb9 h => ?_) (fun hb9 h => ?_)
    · refine COk.seqQ fun Q88 qn88 qx88 qr88 => ?_
      refine gor hn ?_
      refine qn88 _ _ ?_
      refine got hn ?_
      refine qr85 _ _ ?_
      obtain rfl := Option.some.inj h
      exact ⟨[], _, rfl, (by repeat (first | exact trivial | exact rfl | (refine And.intro ?_ ?_))), trivial, rfl, rfl, rfl, rfl, rfl⟩
    · refine gok hn ?_
      refine qn85 _ _ ?_
      refine COk.seqQ fun Q89 qn89 qx89 qr89 => ?_
      refine COk.seqQ fun Q90 qn90 qx90 qr90 => ?_
      obtain ⟨o12, h11, h⟩ := bindM h
      refine COk.joinR (ι := { s : Bool // o12 = s }) (fun s => [(1, .int a1), (3, .ptr 3 0), (5, .ptr 5 0), (6, .ptr 6 0), (44, .bool s.1)]) (fun s => [(3, .box (eWd a0) 26), (5, .box (eMe a2) 64), (6, .box [.int (0 : Int), .int (0 : Int)] 95)]) (fun Q91 qn91 qx91 qr91 => ?_) (by intro s; rw [hn]; rfl) ?_
      · refine gor hn ?_
        refine bselM h11 (fun hb13 h11 => ?_) (fun hb13 h11 => ?_)
        · refine bselT hb13 ?_
          refine bselT hb13 ?_
          refine bselT hb13 ?_
          refine qn91 _ _ ?_
          obtain rfl := Option.some.inj h11
          refine EOk.done ?_
          exact ⟨⟨_, rfl⟩, [], trivial, ⟨⟨rfl, rfl, rfl, rfl, rfl, trivial⟩, ⟨rfl, rfl, rfl, trivial⟩, rfl, rfl⟩⟩
        · refine bselF hb13 ?_
          refine bselF hb13 ?_
          refine bselF hb13 ?_
          refine bselM h11 (fun hb14 h11 => ?_) (fun hb14 h11 => ?_)
          · refine bselT hb14 ?_
            refine bselT hb14 ?_
            refine bselT hb14 ?_
            refine qn91 _ _ ?_
            obtain rfl := Option.some.inj h11
            refine EOk.done ?_
            exact ⟨⟨_, rfl⟩, [], trivial, ⟨⟨rfl, rfl, rfl, rfl, rfl, trivial⟩, ⟨rfl, rfl, rfl, trivial⟩, rfl, rfl⟩⟩
          · refine bselF hb14 ?_
            refine bselF hb14 ?_
            refine bselF hb14 ?_
            refine bselM h11 (fun hb15 h11 => ?_) (fun hb15 h11 => ?_)
            · refine bselT hb15 ?_
              refine bselT hb15 ?_
              refine bselT hb15 ?_
              refine qn91 _ _ ?_
              obtain rfl := Option.some.inj h11
              refine EOk.done ?_
              exact ⟨⟨_, rfl⟩, [], trivial, ⟨⟨rfl, rfl, rfl, rfl, rfl, trivial⟩, ⟨rfl, rfl, rfl, trivial⟩, rfl, rfl⟩⟩
            · refine bselF hb15 ?_
              refine bselF hb15 ?_
              refine bselF hb15 ?_
              refine qn91 _ _ ?_
              obtain rfl := Option.some.inj h11
              refine EOk.done ?_
              exact ⟨⟨_, rfl⟩, [], trivial, ⟨⟨rfl, rfl, rfl, rfl, rfl, trivial⟩, ⟨rfl, rfl, rfl, trivial⟩, rfl, rfl⟩⟩
      rintro ⟨v10, hv_⟩
      replace hv_ := hv_.symm
      subst hv_
      refine qn90 _ _ ?_
      refine goc hn ?_
      refine bselM h (fun hb16 h => ?_) (fun hb16 h => ?_)
      · refine COk.seqQ fun Q93 qn93 qx93 qr93 => ?_
        refine gor hn ?_
        refine qn93 _ _ ?_
        refine got hn ?_
        refine qr89 _ _ ?_
        obtain rfl := Option.some.inj h
        exact ⟨[], _, rfl, (by repeat (first | exact trivial | exact rfl | (refine And.intro ?_ ?_))), trivial, rfl, rfl, rfl, rfl, rfl⟩
      · refine gok hn ?_
        refine qn89 _ _ ?_
        refine COk.seqQ fun Q94 qn94 qx94 qr94 => ?_
        refine COk.seqQ fun Q95 qn95 qx95 qr95 => ?_
        refine gor hn ?_
        refine qn95 _ _ ?_
        refine goc hn ?_
        refine bselM h (fun hb17 h => ?_) (fun hb17 h => ?_)
        · refine COk.seqQ fun Q97 qn97 qx97 qr97 => ?_
          refine gor hn ?_
          refine qn97 _ _ ?_
          refine got hn ?_
          refine qr94 _ _ ?_
          obtain rfl := Option.some.inj h
          exact ⟨[], _, rfl, (by repeat (first | exact trivial | exact rfl | (refine And.intro ?_ ?_))), trivial, rfl, rfl, rfl, rfl, rfl⟩
        · refine gok hn ?_
          refine qn94 _ _ ?_
          refine COk.seqQ fun Q98 qn98 qx98 qr98 => ?_
          refine COk.seqQ fun Q99 qn99 qx99 qr99 => ?_
          obtain ⟨o20, h19, h⟩ := bindM h
          refine COk.joinR (ι := { s : Bool // o20 = s }) (fun s => [(1, .int a1), (3, .ptr 3 0), (5, .ptr 5 0), (6, .ptr 6 0), (59, .bool s.1)]) (fun s => [(3, .box (eWd a0) 26), (5, .box (eMe a2) 64), (6, .box [.int (0 : Int), .int (0 : Int)] 95)]) (fun Q100 qn100 qx100 qr100 => ?_) (by intro s; rw [hn]; rfl) ?_
          · refine gor hn ?_
            refine lenM (fun hl21 => ?_)
            refine bselM h19 (fun hb22 h19 => ?_) (fun hb22 h19 => ?_)
            · refine bselT hb22 ?_
              refine bselT hb22 ?_
              refine bselT hb22 ?_
              refine bselT hb22 ?_
              refine qn100 _ _ ?_
              obtain rfl := Option.some.inj h19
              refine EOk.done ?_
              exact ⟨⟨_, rfl⟩, [], trivial, ⟨⟨rfl, rfl, rfl, rfl, rfl, trivial⟩, ⟨rfl, rfl, rfl, trivial⟩, rfl, rfl⟩⟩
            · refine bselF hb22 ?_
              refine bselF hb22 ?_
              refine lenM (fun hl23 => ?_)
              refine bselF hb22 ?_
              refine bselF hb22 ?_
              refine qn100 _ _ ?_
              obtain rfl := Option.some.inj h19
              refine EOk.done ?_
              exact ⟨⟨_, rfl⟩, [], trivial, ⟨⟨rfl, rfl, rfl, rfl, rfl, trivial⟩, ⟨rfl, rfl, rfl, trivial⟩, rfl, rfl⟩⟩
          rintro ⟨v18, hv_⟩
          replace hv_ := hv_.symm
          subst hv_
          refine qn99 _ _ ?_
          refine goc hn ?_
          refine bselM h (fun hb24 h => ?_) (fun hb24 h => ?_)
          · refine COk.seqQ fun Q102 qn102 qx102 qr102 => ?_
            refine gor hn ?_
            refine qn102 _ _ ?_
            refine got hn ?_
            refine qr98 _ _ ?_
            obtain rfl := Option.some.inj h
            exact ⟨[], _, rfl, (by repeat (first | exact trivial | exact rfl | (refine And.intro ?_ ?_))), trivial, rfl, rfl, rfl, rfl, rfl⟩
          · refine gok hn ?_
            refine qn98 _ _ ?_
            refine COk.seqQ fun Q103 qn103 qx103 qr103 => ?_
            refine COk.seqQ fun Q104 qn104 qx104 qr104 => ?_
            refine gor hn ?_
            refine lenM (fun hl25 => ?_)
            refine qn104 _ _ ?_
            obtain ⟨o27, h28, h⟩ := bindM h
            refine COk.joinR (ι := { s : Unit // o27 = Ctl.next s }) (fun s => [(5, .ptr 5 0), (6, .ptr 6 0)]) (fun s => [(5, .box (eMe a2) 64), (6, .box [.int (0 : Int), .int (0 : Int)] 95)]) (fun Q135 qn135 qx135 qr135 => ?_) (by intro s; rw [hn]; rfl) ?_
            · refine COk.blkQ fun Q136 qn136 qe136 qx136 qr136 => ?_
              refine COk.loopQ (ι := { q : ((List Ins) × Nat) // q.1 = a2.code.drop q.2 ∧ qcref1_Check_l1 N a0 a1 a2 q.1 q.2 = some o27 }) (fun q => [(1, .int a1), (3, .ptr 3 0), (5, .ptr 5 0), (6, .ptr 6 0), (62, .sl 5 (List.map eIns a2.code)), (63, .int (a2.code.length : Int)), (64, .int (q.1.2 : Int))]) (fun q => [(3, .box (eWd a0) 26), (5, .box (eMe a2) 64), (6, .box [.int (0 : Int), .int (0 : Int)] 95)]) (fun q => q.1.1.length) ⟨(a2.code, 0), rfl, h28⟩ [] ⟨⟨rfl, rfl, rfl, rfl, (by repeat (first | exact trivial | exact rfl | (refine And.intro ?_ ?_))), rfl, rfl, trivial⟩, ⟨rfl, rfl, rfl, trivial⟩, rfl, rfl⟩ (by intro q; rw [hn]; rfl) ?_
              rintro ⟨⟨rest_, k26⟩, hd30, h28⟩ Q137 qn137 qx137 qr137
              replace hd30 : rest_ = a2.code.drop k26 := hd30
              rcases rest_ with _ | ⟨x32, rest29⟩
              · have hlt34 := restNil hd30
                replace h28 := (qcref1_Check_l1.eq_1 _ _ _ _ _).symm.trans h28
                refine COk.seqQ fun Q138 qn138 qx138 qr138 => ?_
                refine gor hn ?_
                refine qn138 _ _ ?_
                refine COk.seqQ fun Q139 qn139 qx139 qr139 => ?_
                refine goc hn ?_
                refine bselF hlt34 ?_
                refine goe hn ?_
                refine qx139 _ _ _ ?_
                refine qx137 _ _ _ ?_
                refine qe136 _ _ ?_
                refine qn135 _ _ ?_
                obtain rfl := Option.some.inj h28
                refine EOk.done ?_
                exact ⟨⟨_, rfl⟩, [], trivial, ⟨⟨rfl, rfl, trivial⟩, ⟨rfl, rfl, trivial⟩, rfl, rfl⟩⟩
              · obtain ⟨hx33, hd2, hlt34⟩ := restCons hd30
                replace h28 := (qcref1_Check_l1.eq_2 _ _ _ _ _ _ _).symm.trans h28
                refine COk.seqQ fun Q140 qn140 qx140 qr140 => ?_
                refine gor hn ?_
                refine qn140 _ _ ?_
                refine COk.seqQ fun Q141 qn141 qx141 qr141 => ?_
                refine goc hn ?_
                refine bselT hlt34 ?_
                refine gok hn ?_
                refine qn141 _ _ ?_
                refine COk.seqQ fun Q142 qn142 qx142 qr142 => ?_
                refine COk.blkQ fun Q149 qn149 qe149 qx149 qr149 => ?_
                refine COk.seqQ fun Q150 qn150 qx150 qr150 => ?_
                refine gor hn ?_
                refine idxK hx33 ?_
                refine qn150 _ _ ?_
                refine COk.seqQ fun Q151 qn151 qx151 qr151 => ?_
                refine gor hn ?_
                obtain ⟨r35, hr36, h28⟩ := bindM h28
                show CallOk Try.prog _ _ _ _
                refine CallOk.as (qcref1_Numbers_ok N a0 a1 a2 x32 r35 hr36) (by repeat (first | exact trivial | exact rfl | (refine And.intro ?_ ?_))) trivial rfl ?_
                refine qn151 _ _ ?_
                refine COk.seqQ fun Q152 qn152 qx152 qr152 => ?_
                refine COk.sub (ts2 := [(1, .int a1), (3, .ptr 3 0), (5, .ptr 5 0), (6, .ptr 6 0), (7, .int (k26 : Int)), (9, .int r35), (62, .sl 5 (List.map eIns a2.code)), (63, .int (a2.code.length : Int)), (64, .int (k26 : Int))]) (os2 := [(3, .box (eWd a0) 26), (5, .box (eMe a2) 64), (6, .box [.int (0 : Int), .int (0 : Int)] 95)]) [] ⟨⟨rfl, rfl, rfl, rfl, rfl, rfl, (by repeat (first | exact trivial | exact rfl | (refine And.intro ?_ ?_))), rfl, rfl, trivial⟩, ⟨rfl, rfl, rfl, trivial⟩, rfl, rfl⟩ (by rw [hn]; rfl) ?_
                refine gor hn ?_
                refine qn152 _ _ ?_
                refine goc hn ?_
                refine bselM h28 (fun hb37 h28 => ?_) (fun hb37 h28 => ?_)
                · refine COk.seqQ fun Q154 qn154 qx154 qr154 => ?_
                  refine gor hn ?_
                  refine qn154 _ _ ?_
                  refine got hn ?_
                  refine qr149 _ _ ?_
                  refine qr142 _ _ ?_
                  refine qr137 _ _ ?_
                  refine qr136 _ _ ?_
                  refine qr135 _ _ ?_
                  refine qr103 _ _ ?_
                  obtain rfl := Option.some.inj h28
                  obtain rfl := Option.some.inj h
                  exact ⟨[], _, rfl, (by repeat (first | exact trivial | exact rfl | (refine And.intro ?_ ?_))), trivial, rfl, rfl, rfl, rfl, rfl⟩
                · refine gok hn ?_
                  refine qn149 _ _ ?_
                  refine qn142 _ _ ?_
                  refine gor hn ?_
                  refine Or.inl (And.intro (inrK hx33 hl25) ?_)
                  refine qn137 _ _ ?_
                  refine EOk.done ?_
                  exact ⟨⟨(rest29, k26 + 1), hd2, h28⟩, [], by show rest29.length < rest29.length + 1; omega, ⟨⟨rfl, rfl, rfl, rfl, (by repeat (first | exact trivial | exact rfl | (refine And.intro ?_ ?_))), rfl, rfl, trivial⟩, ⟨rfl, rfl, rfl, trivial⟩, rfl, rfl⟩⟩
            rintro ⟨⟨⟩, rfl⟩
            refine qn103 _ _ ?_
            refine COk.seqQ fun Q155 qn155 qx155 qr155 => ?_
            refine gor hn ?_
            obtain ⟨r38, hr39, h⟩ := bindM h
            show CallOk Try.prog _ _ _ _
            refine CallOk.as ((qcref1_Heights_ok N a2 r38 hr39).sw 0 82) (by repeat (first | exact trivial | exact rfl | (refine And.intro ?_ ?_))) trivial rfl ?_
            refine qn155 _ _ ?_
            refine COk.seqQ fun Q156 qn156 qx156 qr156 => ?_
            refine gor hn ?_
            refine qn156 _ _ ?_
            refine got hn ?_
            obtain rfl := Option.some.inj h
            exact ⟨[], _, rfl, (by repeat (first | exact trivial | exact rfl | (refine And.intro ?_ ?_))), trivial, rfl, rfl, rfl, rfl, rfl⟩

/- qcref1.Wrong -/
set_option maxRecDepth 100000 in
set_option maxHeartbeats 1000000 in
theorem qcref1_Wrong_ok (N : Nat) (a0 : V) (a1 : Int) (r : Int) (h : qcref1_Wrong N a0 a1 = some r) : Spec Try.prog 55 [] [.agg (eV a0), .int a1] (.int r) [] [] := by
  refine Spec.of tabOk Try.func55 rfl Try.ntmps55 (by kernel_rfl) rfl rfl rfl fun Γ hn => ?_
  unfold qcref1_Wrong at h
  refine COk.seqQ fun Q23 qn23 qx23 qr23 => ?_
  refine gor hn ?_
  refine qn23 _ _ ?_
  refine COk.seqQ fun Q24 qn24 qx24 qr24 => ?_
  refine COk.seqQ fun Q25 qn25 qx25 qr25 => ?_
  obtain ⟨o3, h2, h⟩ := bindM h
  refine COk.joinR (ι := { s : Bool // o3 = s }) (fun s => [(1, .int a1), (2, .ptr 2 0), (12, .bool s.1)]) (fun s => [(2, .box (eV a0) 101)]) (fun Q26 qn26 qx26 qr26 => ?_) (by intro s; rw [hn]; rfl) ?_
  · refine gor hn ?_
    refine bselM h2 (fun hb4 h2 => ?_) (fun hb4 h2 => ?_)
    · refine bselT hb4 ?_
      refine bselT hb4 ?_
      refine bselT hb4 ?_
      refine qn26 _ _ ?_
      obtain rfl := Option.some.inj h2
      refine EOk.done ?_
      exact ⟨⟨_, rfl⟩, [], trivial, ⟨⟨rfl, rfl, rfl, trivial⟩, ⟨rfl, trivial⟩, rfl, rfl⟩⟩
    · refine bselF hb4 ?_
      refine bselF hb4 ?_
      refine bselF hb4 ?_
      refine qn26 _ _ ?_
      obtain rfl := Option.some.inj h2
      refine EOk.done ?_
      exact ⟨⟨_, rfl⟩, [], trivial, ⟨⟨rfl, rfl, rfl, trivial⟩, ⟨rfl, trivial⟩, rfl, rfl⟩⟩
  rintro ⟨v1, hv_⟩
  replace hv_ := hv_.symm
  subst hv_
  refine qn25 _ _ ?_
  refine goc hn ?_
  refine bselM h (fun hb5 h => ?_) (fun hb5 h => ?_)
  · refine COk.seqQ fun Q28 qn28 qx28 qr28 => ?_
    refine gor hn ?_
    refine qn28 _ _ ?_
    refine got hn ?_
    refine qr24 _ _ ?_
    obtain rfl := Option.some.inj h
    exact ⟨[], _, rfl, (by repeat (first | exact trivial | exact rfl | (refine And.intro ?_ ?_))), trivial, rfl, rfl, rfl, rfl, rfl⟩
  · refine gok hn ?_
    refine qn24 _ _ ?_
    refine COk.seqQ fun Q29 qn29 qx29 qr29 => ?_
    refine COk.seqQ fun Q30 qn30 qx30 qr30 => ?_
    obtain ⟨o8, h7, h⟩ := bindM h
    refine COk.joinR (ι := { s : Bool // o8 = s }) (fun s => [(1, .int a1), (2, .ptr 2 0), (20, .bool s.1)]) (fun s => [(2, .box (eV a0) 101)]) (fun Q31 qn31 qx31 qr31 => ?_) (by intro s; rw [hn]; rfl) ?_
    · refine gor hn ?_
      refine bselM h7 (fun hb9 h7 => ?_) (fun hb9 h7 => ?_)
      · refine bselT hb9 ?_
        refine bselT hb9 ?_
        refine bselT hb9 ?_
        refine qn31 _ _ ?_
        obtain rfl := Option.some.inj h7
        refine EOk.done ?_
        exact ⟨⟨_, rfl⟩, [], trivial, ⟨⟨rfl, rfl, rfl, trivial⟩, ⟨rfl, trivial⟩, rfl, rfl⟩⟩
      · refine bselF hb9 ?_
        refine bselF hb9 ?_
        refine bselF hb9 ?_
        refine qn31 _ _ ?_
        obtain rfl := Option.some.inj h7
        refine EOk.done ?_
        exact ⟨⟨_, rfl⟩, [], trivial, ⟨⟨rfl, rfl, rfl, trivial⟩, ⟨rfl, trivial⟩, rfl, rfl⟩⟩
    rintro ⟨v6, hv_⟩
    replace hv_ := hv_.symm
    subst hv_
    refine qn30 _ _ ?_
    refine goc hn ?_
    refine bselM h (fun hb10 h => ?_) (fun hb10 h => ?_)
    · refine COk.seqQ fun Q33 qn33 qx33 qr33 => ?_
      refine gor hn ?_
      refine qn33 _ _ ?_
      refine got hn ?_
      refine qr29 _ _ ?_
      obtain rfl := Option.some.inj h
      exact ⟨[], _, rfl, (by repeat (first | exact trivial | exact rfl | (refine And.intro ?_ ?_))), trivial, rfl, rfl, rfl, rfl, rfl⟩
    · refine gok hn ?_
      refine qn29 _ _ ?_
      refine COk.seqQ fun Q34 qn34 qx34 qr34 => ?_
      refine COk.seqQ fun Q35 qn35 qx35 qr35 => ?_
      obtain ⟨o13, h12, h⟩ := bindM h
      refine COk.joinR (ι := { s : Bool // o13 = s }) (fun s => [(1, .int a1), (2, .ptr 2 0), (33, .bool s.1)]) (fun s => [(2, .box (eV a0) 101)]) (fun Q36 qn36 qx36 qr36 => ?_) (by intro s; rw [hn]; rfl) ?_
      · refine gor hn ?_
        refine bselM h12 (fun hb14 h12 => ?_) (fun hb14 h12 => ?_)
        · refine bselT hb14 ?_
          refine bselT hb14 ?_
          refine bselT hb14 ?_
          refine bselM h12 (fun hb15 h12 => ?_) (fun hb15 h12 => ?_)
          · refine bselT hb15 ?_
            refine bselT hb15 ?_
            refine bselT hb14 ?_
            refine bselT hb15 ?_
            refine bselT hb14 ?_
            refine qn36 _ _ ?_
            obtain rfl := Option.some.inj h12
            refine EOk.done ?_
            exact ⟨⟨_, rfl⟩, [], trivial, ⟨⟨rfl, rfl, rfl, trivial⟩, ⟨rfl, trivial⟩, rfl, rfl⟩⟩
          · refine bselF hb15 ?_
            refine bselF hb15 ?_
            refine bselT hb14 ?_
            refine bselF hb15 ?_
            refine bselT hb14 ?_
            refine qn36 _ _ ?_
            obtain rfl := Option.some.inj h12
            refine EOk.done ?_
            exact ⟨⟨_, rfl⟩, [], trivial, ⟨⟨rfl, rfl, rfl, trivial⟩, ⟨rfl, trivial⟩, rfl, rfl⟩⟩
        · refine bselF hb14 ?_
          refine bselF hb14 ?_
          refine bselF hb14 ?_
          refine bselF hb14 ?_
          refine bselF hb14 ?_
          refine qn36 _ _ ?_
          obtain rfl := Option.some.inj h12
          refine EOk.done ?_
          exact ⟨⟨_, rfl⟩, [], trivial, ⟨⟨rfl, rfl, rfl, trivial⟩, ⟨rfl, trivial⟩, rfl, rfl⟩⟩
      rintro ⟨v11, hv_⟩
      replace hv_ := hv_.symm
      subst hv_
      refine qn35 _ _ ?_
      refine goc hn ?_
      refine bselM h (fun hb16 h => ?_) (fun hb16 h => ?_)
      · refine COk.seqQ fun Q38 qn38 qx38 qr38 => ?_
        refine gor hn ?_
        refine qn38 _ _ ?_
        refine got hn ?_
        refine qr34 _ _ ?_
        obtain rfl := Option.some.inj h
        exact ⟨[], _, rfl, (by repeat (first | exact trivial | exact rfl | (refine And.intro ?_ ?_))), trivial, rfl, rfl, rfl, rfl, rfl⟩
      · refine gok hn ?_
        refine qn34 _ _ ?_
        refine COk.seqQ fun Q39 qn39 qx39 qr39 => ?_
        refine COk.seqQ fun Q40 qn40 qx40 qr40 => ?_
        obtain ⟨o19, h18, h⟩ := bindM h
        refine COk.joinR (ι := { s : Bool // o19 = s }) (fun s => [(47, .bool s.1)]) (fun s => []) (fun Q41 qn41 qx41 qr41 => ?_) (by intro s; rw [hn]; rfl) ?_
        · refine gor hn ?_
          refine bselM h18 (fun hb20 h18 => ?_) (fun hb20 h18 => ?_)
          · refine bselT hb20 ?_
            refine bselT hb20 ?_
            refine bselT hb20 ?_
            refine bselM h18 (fun hb21 h18 => ?_) (fun hb21 h18 => ?_)
            · refine bselT hb21 ?_
              refine bselT hb21 ?_
              refine bselT hb21 ?_
              refine bselT hb20 ?_
              refine bselT hb21 ?_
              refine bselT hb20 ?_
              refine qn41 _ _ ?_
              obtain rfl := Option.some.inj h18
              refine EOk.done ?_
              exact ⟨⟨_, rfl⟩, [], trivial, ⟨⟨rfl, trivial⟩, trivial, rfl, rfl⟩⟩
            · refine bselF hb21 ?_
              refine bselF hb21 ?_
              refine bselF hb21 ?_
              refine bselT hb20 ?_
              refine bselF hb21 ?_
              refine bselT hb20 ?_
              refine qn41 _ _ ?_
              obtain rfl := Option.some.inj h18
              refine EOk.done ?_
              exact ⟨⟨_, rfl⟩, [], trivial, ⟨⟨rfl, trivial⟩, trivial, rfl, rfl⟩⟩
          · refine bselF hb20 ?_
            refine bselF hb20 ?_
            refine bselF hb20 ?_
            refine bselF hb20 ?_
            refine bselF hb20 ?_
            refine qn41 _ _ ?_
            obtain rfl := Option.some.inj h18
            refine EOk.done ?_
            exact ⟨⟨_, rfl⟩, [], trivial, ⟨⟨rfl, trivial⟩, trivial, rfl, rfl⟩⟩
        rintro ⟨v17, hv_⟩
        replace hv_ := hv_.symm
        subst hv_
        refine qn40 _ _ ?_
        refine goc hn ?_
        refine bselM h (fun hb22 h => ?_) (fun hb22 h => ?_)
        · refine COk.seqQ fun Q43 qn43 qx43 qr43 => ?_
          refine gor hn ?_
          refine qn43 _ _ ?_
          refine got hn ?_
          refine qr39 _ _ ?_
          obtain rfl := Option.some.inj h
          exact ⟨[], _, rfl, (by repeat (first | exact trivial | exact rfl | (refine And.intro ?_ ?_))), trivial, rfl, rfl, rfl, rfl, rfl⟩
        · refine gok hn ?_
          refine qn39 _ _ ?_
          refine COk.seqQ fun Q44 qn44 qx44 qr44 => ?_
          refine gor hn ?_
          refine qn44 _ _ ?_
          refine got hn ?_
          obtain rfl := Option.some.inj h
          exact ⟨[], _, rfl, (by repeat (first | exact trivial | exact rfl | (refine And.intro ?_ ?_))), trivial, rfl, rfl, rfl, rfl, rfl⟩

/- qcref1.Right -/
set_option maxRecDepth 100000 in
set_option maxHeartbeats 1000000 in
theorem qcref1_Right_ok (N : Nat) (a0 : Wd) (r : Int) (h : qcref1_Right N a0 = some r) : Spec Try.prog 23 [] [.agg (eWd a0)] (.int r) [] [] := by
  refine Spec.of tabOk Try.func23 rfl Try.ntmps23 (by kernel_rfl) rfl rfl rfl fun Γ hn => ?_
  unfold qcref1_Right at h
  refine COk.seqQ fun Q3176 qn3176 qx3176 qr3176 => ?_
  refine gor hn ?_
  refine qn3176 _ _ ?_
  refine COk.seqQ fun Q3177 qn3177 qx3177 qr3177 => ?_
  refine gor hn ?_
  obtain ⟨r1, hr2, h⟩ := bindM h
  show CallOk Try.prog _ _ _ _
  refine CallOk.as (qcref1_New_ok N  r1 hr2) (by repeat (first | exact trivial | exact rfl | (refine And.intro ?_ ?_))) trivial rfl ?_
  refine qn3177 _ _ ?_
  refine COk.seqQ fun Q3178 qn3178 qx3178 qr3178 => ?_
  refine COk.seqQ fun Q3179 qn3179 qx3179 qr3179 => ?_
  obtain ⟨o5, h4, h⟩ := bindM h
  refine COk.joinR (ι := { s : Bool // o5 = s }) (fun s => [(1, .ptr 1 0), (3, .ptr 3 0), (39, .bool s.1)]) (fun s => [(1, .box (eWd a0) 26), (3, .box (eWd r1) 26)]) (fun Q3180 qn3180 qx3180 qr3180 => ?_) (by intro s; rw [hn]; rfl) ?_
  · refine gor hn ?_
    refine lenM (fun hl6 => ?_)
    refine bselM h4 (fun hb7 h4 => ?_) (fun hb7 h4 => ?_)
    · refine bselT hb7 ?_
      refine bselT hb7 ?_
      refine bselT hb7 ?_
      refine bselT hb7 ?_
      refine qn3180 _ _ ?_
      obtain rfl := Option.some.inj h4
      refine EOk.done ?_
      exact ⟨⟨_, rfl⟩, [], trivial, ⟨⟨rfl, rfl, rfl, trivial⟩, ⟨rfl, rfl, trivial⟩, rfl, rfl⟩⟩
    · refine bselF hb7 ?_
      refine bselF hb7 ?_
      refine lenM (fun hl8 => ?_)
      refine bselF hb7 ?_
      refine bselF hb7 ?_
      refine bselM h4 (fun hb9 h4 => ?_) (fun hb9 h4 => ?_)
      · refine bselT hb9 ?_
        refine bselT hb9 ?_
        refine bselT hb9 ?_
        refine bselT hb9 ?_
        refine qn3180 _ _ ?_
        obtain rfl := Option.some.inj h4
        refine EOk.done ?_
        exact ⟨⟨_, rfl⟩, [], trivial, ⟨⟨rfl, rfl, rfl, trivial⟩, ⟨rfl, rfl, trivial⟩, rfl, rfl⟩⟩
      · refine bselF hb9 ?_
        refine bselF hb9 ?_
        refine lenM (fun hl10 => ?_)
        refine bselF hb9 ?_
        refine bselF hb9 ?_
        refine qn3180 _ _ ?_
        obtain rfl := Option.some.inj h4
        refine EOk.done ?_
        exact ⟨⟨_, rfl⟩, [], trivial, ⟨⟨rfl, rfl, rfl, trivial⟩, ⟨rfl, rfl, trivial⟩, rfl, rfl⟩⟩
  rintro ⟨v3, hv_⟩
  replace hv_ := hv_.symm
  subst hv_
  refine qn3179 _ _ ?_
  refine goc hn ?_
  refine bselM h (fun hb11 h => ?_) (fun hb11 h => ?_)
  · refine COk.seqQ fun Q3182 qn3182 qx3182 qr3182 => ?_
    refine gor hn ?_
    refine qn3182 _ _ ?_
    refine got hn ?_
    refine qr3178 _ _ ?_
    obtain rfl := Option.some.inj h
    exact ⟨[], _, rfl, (by repeat (first | exact trivial | exact rfl | (refine And.intro ?_ ?_))), trivial, rfl, rfl, rfl, rfl, rfl⟩
  · refine gok hn ?_
    refine qn3178 _ _ ?_
    refine COk.seqQ fun Q3183 qn3183 qx3183 qr3183 => ?_
    refine COk.seqQ fun Q3184 qn3184 qx3184 qr3184 => ?_
    obtain ⟨o14, h13, h⟩ := bindM h
    refine COk.joinR (ι := { s : Bool // o14 = s }) (fun s => [(1, .ptr 1 0), (3, .ptr 3 0), (47, .bool s.1)]) (fun s => [(1, .box (eWd a0) 26), (3, .box (eWd r1) 26)]) (fun Q3185 qn3185 qx3185 qr3185 => ?_) (by intro s; rw [hn]; rfl) ?_
    · refine gor hn ?_
      refine bselM h13 (fun hb15 h13 => ?_) (fun hb15 h13 => ?_)
      · refine bselT hb15 ?_
        refine bselT hb15 ?_
        refine bselT hb15 ?_
        refine qn3185 _ _ ?_
        obtain rfl := Option.some.inj h13
        refine EOk.done ?_
        exact ⟨⟨_, rfl⟩, [], trivial, ⟨⟨rfl, rfl, rfl, trivial⟩, ⟨rfl, rfl, trivial⟩, rfl, rfl⟩⟩
      · refine bselF hb15 ?_
        refine bselF hb15 ?_
        refine bselF hb15 ?_
        refine qn3185 _ _ ?_
        obtain rfl := Option.some.inj h13
        refine EOk.done ?_
        exact ⟨⟨_, rfl⟩, [], trivial, ⟨⟨rfl, rfl, rfl, trivial⟩, ⟨rfl, rfl, trivial⟩, rfl, rfl⟩⟩
    rintro ⟨v12, hv_⟩
    replace hv_ := hv_.symm
    subst hv_
    refine qn3184 _ _ ?_
    refine goc hn ?_
    refine bselM h (fun hb16 h => ?_) (fun hb16 h => ?_)
    · refine COk.seqQ fun Q3187 qn3187 qx3187 qr3187 => ?_
      refine gor hn ?_
      refine qn3187 _ _ ?_
      refine got hn ?_
      refine qr3183 _ _ ?_
      obtain rfl := Option.some.inj h
      exact ⟨[], _, rfl, (by repeat (first | exact trivial | exact rfl | (refine And.intro ?_ ?_))), trivial, rfl, rfl, rfl, rfl, rfl⟩
    · refine gok hn ?_
      refine qn3183 _ _ ?_
      refine COk.seqQ fun Q3188 qn3188 qx3188 qr3188 => ?_
      refine COk.seqQ fun Q3189 qn3189 qx3189 qr3189 => ?_
      refine gor hn ?_
      refine lenM (fun hl17 => ?_)
      refine qn3189 _ _ ?_
      obtain ⟨o19, h20, h⟩ := bindM h
      refine COk.joinR (ι := { s : Unit // o19 = Ctl.next s }) (fun s => [(1, .ptr 1 0), (3, .ptr 3 0)]) (fun s => [(1, .box (eWd a0) 26), (3, .box (eWd r1) 26)]) (fun Q3536 qn3536 qx3536 qr3536 => ?_) (by intro s; rw [hn]; rfl) ?_
      · refine COk.blkQ fun Q3537 qn3537 qe3537 qx3537 qr3537 => ?_
        refine COk.loopQ (ι := { q : ((List Cl) × Nat) // q.1 = a0.classes.drop q.2 ∧ qcref1_Right_l1 N a0 r1 q.1 q.2 = some o19 }) (fun q => [(1, .ptr 1 0), (3, .ptr 3 0), (49, .sl 4 (List.map eCl a0.classes)), (50, .int (a0.classes.length : Int)), (51, .int (q.1.2 : Int))]) (fun q => [(1, .box (eWd a0) 26), (3, .box (eWd r1) 26)]) (fun q => q.1.1.length) ⟨(a0.classes, 0), rfl, h20⟩ [] ⟨⟨rfl, rfl, (by repeat (first | exact trivial | exact rfl | (refine And.intro ?_ ?_))), rfl, rfl, trivial⟩, ⟨rfl, rfl, trivial⟩, rfl, rfl⟩ (by intro q; rw [hn]; rfl) ?_
        rintro ⟨⟨rest_, k18⟩, hd22, h20⟩ Q3538 qn3538 qx3538 qr3538
        replace hd22 : rest_ = a0.classes.drop k18 := hd22
        rcases rest_ with _ | ⟨x24, rest21⟩
        · have hlt26 := restNil hd22
          replace h20 := (qcref1_Right_l1.eq_1 _ _ _ _).symm.trans h20
          refine COk.seqQ fun Q3539 qn3539 qx3539 qr3539 => ?_
          refine gor hn ?_
          refine qn3539 _ _ ?_
          refine COk.seqQ fun Q3540 qn3540 qx3540 qr3540 => ?_
          refine goc hn ?_
          refine bselF hlt26 ?_
          refine goe hn ?_
          refine qx3540 _ _ _ ?_
          refine qx3538 _ _ _ ?_
          refine qe3537 _ _ ?_
          refine qn3536 _ _ ?_
          obtain rfl := Option.some.inj h20
          refine EOk.done ?_
          exact ⟨⟨_, rfl⟩, [], trivial, ⟨⟨rfl, rfl, trivial⟩, ⟨rfl, rfl, trivial⟩, rfl, rfl⟩⟩
        · obtain ⟨hx25, hd2, hlt26⟩ := restCons hd22
          replace h20 := (qcref1_Right_l1.eq_2 _ _ _ _ _ _).symm.trans h20
          refine COk.seqQ fun Q3541 qn3541 qx3541 qr3541 => ?_
          refine gor hn ?_
          refine qn3541 _ _ ?_
          refine COk.seqQ fun Q3542 qn3542 qx3542 qr3542 => ?_
          refine goc hn ?_
          refine bselT hlt26 ?_
          refine gok hn ?_
          refine qn3542 _ _ ?_
          refine COk.seqQ fun Q3543 qn3543 qx3543 qr3543 => ?_
          refine COk.blkQ fun Q3629 qn3629 qe3629 qx3629 qr3629 => ?_
          refine COk.seqQ fun Q3630 qn3630 qx3630 qr3630 => ?_
          refine gor hn ?_
          refine idxK hx25 ?_
          refine qn3630 _ _ ?_
          refine COk.seqQ fun Q3631 qn3631 qx3631 qr3631 => ?_
          refine COk.seqQ fun Q3632 qn3632 qx3632 qr3632 => ?_
          obtain ⟨o29, h28, h20⟩ := bindM h20
          refine COk.joinR (ι := { s : Bool // o29 = s }) (fun s => [(1, .ptr 1 0), (3, .ptr 3 0), (4, .int (k18 : Int)), (5, .ptr 5 0), (49, .sl 4 (List.map eCl a0.classes)), (50, .int (a0.classes.length : Int)), (51, .int (k18 : Int)), (74, .bool s.1)]) (fun s => [(1, .box (eWd a0) 26), (3, .box (eWd r1) 26), (5, .box (eCl x24) 60)]) (fun Q3633 qn3633 qx3633 qr3633 => ?_) (by intro s; rw [hn]; rfl) ?_
          · refine COk.sub (ts2 := [(1, .ptr 1 0), (3, .ptr 3 0), (4, .int (k18 : Int)), (5, .ptr 5 0), (49, .sl 4 (List.map eCl a0.classes)), (50, .int (a0.classes.length : Int)), (51, .int (k18 : Int))]) (os2 := [(1, .box (eWd a0) 26), (3, .box (eWd r1) 26), (5, .box (eCl x24) 60)]) [] ⟨⟨rfl, rfl, rfl, rfl, (by repeat (first | exact trivial | exact rfl | (refine And.intro ?_ ?_))), rfl, rfl, trivial⟩, ⟨rfl, rfl, rfl, trivial⟩, rfl, rfl⟩ (by rw [hn]; rfl) ?_
            refine god hn (by kernel_rfl) ?_
            obtain ⟨r30, hr31, h28⟩ := bindM h28
            show CallOk Try.prog _ _ _ _
            refine CallOk.as (qcref1_Name_ok N x24.name r30 hr31) (by repeat (first | exact trivial | exact rfl | (refine And.intro ?_ ?_))) trivial rfl ?_
            refine bselM h28 (fun hb32 h28 => ?_) (fun hb32 h28 => ?_)
            · refine bselT hb32 ?_
              refine bselT hb32 ?_
              refine bselT hb32 ?_
              refine bselT hb32 ?_
              refine qn3633 _ _ ?_
              obtain rfl := Option.some.inj h28
              refine EOk.done ?_
              exact ⟨⟨_, rfl⟩, [], trivial, ⟨⟨rfl, rfl, rfl, rfl, (by repeat (first | exact trivial | exact rfl | (refine And.intro ?_ ?_))), rfl, rfl, rfl, trivial⟩, ⟨rfl, rfl, rfl, trivial⟩, rfl, rfl⟩⟩
            · refine bselF hb32 ?_
              refine bselF hb32 ?_
              refine bselM h28 (fun hb33 h28 => ?_) (fun hb33 h28 => ?_)
              · refine bselT hb33 ?_
                refine bselT hb33 ?_
                refine bselT hb33 ?_
                refine bselT hb33 ?_
                refine bselT hb33 ?_
                obtain ⟨x34, hx35, h28⟩ := bindM h28
                refine idxM hx35 ?_
                refine bselT hb33 ?_
                refine bselT hb33 ?_
                refine bselT hb33 ?_
                refine bselF hb32 ?_
                refine bselT hb33 ?_
                refine bselF hb32 ?_
                refine qn3633 _ _ ?_
                obtain rfl := Option.some.inj h28
                refine EOk.done ?_
                exact ⟨⟨_, rfl⟩, [], trivial, ⟨⟨rfl, rfl, rfl, rfl, (by repeat (first | exact trivial | exact rfl | (refine And.intro ?_ ?_))), rfl, rfl, rfl, trivial⟩, ⟨rfl, rfl, rfl, trivial⟩, rfl, rfl⟩⟩
              · refine bselF hb33 ?_
                refine bselF hb33 ?_
                refine bselF hb33 ?_
                refine bselF hb33 ?_
                refine bselF hb33 ?_
                refine bselF hb33 ?_
                refine bselF hb33 ?_
                refine bselF hb33 ?_
                refine bselF hb32 ?_
                refine bselF hb33 ?_
                refine bselF hb32 ?_
                refine qn3633 _ _ ?_
                obtain rfl := Option.some.inj h28
                refine EOk.done ?_
                exact ⟨⟨_, rfl⟩, [], trivial, ⟨⟨rfl, rfl, rfl, rfl, (by repeat (first | exact trivial | exact rfl | (refine And.intro ?_ ?_))), rfl, rfl, rfl, trivial⟩, ⟨rfl, rfl, rfl, trivial⟩, rfl, rfl⟩⟩
          rintro ⟨v27, hv_⟩
          replace hv_ := hv_.symm
          subst hv_
          refine qn3632 _ _ ?_
          refine goc hn ?_
          refine bselM h20 (fun hb36 h20 => ?_) (fun hb36 h20 => ?_)
          · refine COk.seqQ fun Q3635 qn3635 qx3635 qr3635 => ?_
            refine gor hn ?_
            refine qn3635 _ _ ?_
            refine got hn ?_
            refine qr3631 _ _ ?_
            refine qr3629 _ _ ?_
            refine qr3543 _ _ ?_
            refine qr3538 _ _ ?_
            refine qr3537 _ _ ?_
            refine qr3536 _ _ ?_
            refine qr3188 _ _ ?_
            obtain rfl := Option.some.inj h20
            obtain rfl := Option.some.inj h
            exact ⟨[], _, rfl, (by repeat (first | exact trivial | exact rfl | (refine And.intro ?_ ?_))), trivial, rfl, rfl, rfl, rfl, rfl⟩
          · refine gok hn ?_
            refine qn3631 _ _ ?_
            refine COk.seqQ fun Q3636 qn3636 qx3636 qr3636 => ?_
            refine COk.seqQ fun Q3637 qn3637 qx3637 qr3637 => ?_
            refine gor hn ?_
            obtain ⟨hg37, h20⟩ := guardM h20
            refine takeM hg37 rfl rfl ?_
            refine lenM (fun hl38 => ?_)
            refine qn3637 _ _ ?_
            obtain ⟨o40, h41, h20⟩ := bindM h20
            refine COk.joinR (ι := { s : Unit // o40 = Ctl.next s }) (fun s => [(1, .ptr 1 0), (3, .ptr 3 0), (4, .int (k18 : Int)), (5, .ptr 5 0), (49, .sl 4 (List.map eCl a0.classes)), (50, .int (a0.classes.length : Int)), (51, .int (k18 : Int))]) (fun s => [(1, .box (eWd a0) 26), (3, .box (eWd r1) 26), (5, .box (eCl x24) 60)]) (fun Q3664 qn3664 qx3664 qr3664 => ?_) (by intro s; rw [hn]; rfl) ?_
            · refine COk.blkQ fun Q3665 qn3665 qe3665 qx3665 qr3665 => ?_
              refine COk.loopQ (ι := { q : ((List Cl) × Nat) // q.1 = (a0.classes.take (k18 : Int).toNat).drop q.2 ∧ qcref1_Right_l2 N x24 q.1 q.2 = some o40 }) (fun q => [(1, .ptr 1 0), (3, .ptr 3 0), (4, .int (k18 : Int)), (5, .ptr 5 0), (49, .sl 4 (List.map eCl a0.classes)), (50, .int (a0.classes.length : Int)), (51, .int (k18 : Int)), (78, .sl 4 (List.map eCl (a0.classes.take (k18 : Int).toNat))), (79, .int ((a0.classes.take (k18 : Int).toNat).length : Int)), (80, .int (q.1.2 : Int))]) (fun q => [(1, .box (eWd a0) 26), (3, .box (eWd r1) 26), (5, .box (eCl x24) 60)]) (fun q => q.1.1.length) ⟨((a0.classes.take (k18 : Int).toNat), 0), rfl, h41⟩ [] ⟨⟨rfl, rfl, rfl, rfl, (by repeat (first | exact trivial | exact rfl | (refine And.intro ?_ ?_))), rfl, rfl, (by repeat (first | exact trivial | exact rfl | (refine And.intro ?_ ?_))), rfl, rfl, trivial⟩, ⟨rfl, rfl, rfl, trivial⟩, rfl, rfl⟩ (by intro q; rw [hn]; rfl) ?_
              rintro ⟨⟨rest_, k39⟩, hd43, h41⟩ Q3666 qn3666 qx3666 qr3666
              replace hd43 : rest_ = (a0.classes.take (k18 : Int).toNat).drop k39 := hd43
              rcases rest_ with _ | ⟨x45, rest42⟩
              · have hlt47 := restNil hd43
                replace h41 := (qcref1_Right_l2.eq_1 _ _ _).symm.trans h41
                refine COk.seqQ fun Q3667 qn3667 qx3667 qr3667 => ?_
                refine gor hn ?_
                refine qn3667 _ _ ?_
                refine COk.seqQ fun Q3668 qn3668 qx3668 qr3668 => ?_
                refine goc hn ?_
                refine bselF hlt47 ?_
                refine goe hn ?_
                refine qx3668 _ _ _ ?_
                refine qx3666 _ _ _ ?_
                refine qe3665 _ _ ?_
                refine qn3664 _ _ ?_
                obtain rfl := Option.some.inj h41
                refine EOk.done ?_
                exact ⟨⟨_, rfl⟩, [], trivial, ⟨⟨rfl, rfl, rfl, rfl, (by repeat (first | exact trivial | exact rfl | (refine And.intro ?_ ?_))), rfl, rfl, trivial⟩, ⟨rfl, rfl, rfl, trivial⟩, rfl, rfl⟩⟩
              · obtain ⟨hx46, hd2, hlt47⟩ := restCons hd43
                replace h41 := (qcref1_Right_l2.eq_2 _ _ _ _ _).symm.trans h41
                refine COk.seqQ fun Q3669 qn3669 qx3669 qr3669 => ?_
                refine gor hn ?_
                refine qn3669 _ _ ?_
                refine COk.seqQ fun Q3670 qn3670 qx3670 qr3670 => ?_
                refine goc hn ?_
                refine bselT hlt47 ?_
                refine gok hn ?_
                refine qn3670 _ _ ?_
                refine COk.seqQ fun Q3671 qn3671 qx3671 qr3671 => ?_
                refine COk.blkQ fun Q3677 qn3677 qe3677 qx3677 qr3677 => ?_
                refine COk.seqQ fun Q3678 qn3678 qx3678 qr3678 => ?_
                refine gor hn ?_
                refine idxK hx46 ?_
                refine qn3678 _ _ ?_
                refine COk.seqQ fun Q3679 qn3679 qx3679 qr3679 => ?_
                refine gor hn ?_
                refine qn3679 _ _ ?_
                refine goc hn ?_
                refine bselM h41 (fun hb48 h41 => ?_) (fun hb48 h41 => ?_)
                · refine COk.seqQ fun Q3681 qn3681 qx3681 qr3681 => ?_
                  refine COk.sub (ts2 := []) (os2 := []) [] ⟨trivial, trivial, rfl, rfl⟩ (by rw [hn]; rfl) ?_
                  refine gor hn ?_
                  refine qn3681 _ _ ?_
                  refine got hn ?_
                  refine qr3677 _ _ ?_
                  refine qr3671 _ _ ?_
                  refine qr3666 _ _ ?_
                  refine qr3665 _ _ ?_
                  refine qr3664 _ _ ?_
                  refine qr3636 _ _ ?_
                  refine qr3629 _ _ ?_
                  refine qr3543 _ _ ?_
                  refine qr3538 _ _ ?_
                  refine qr3537 _ _ ?_
                  refine qr3536 _ _ ?_
                  refine qr3188 _ _ ?_
                  obtain rfl := Option.some.inj h41
                  obtain rfl := Option.some.inj h20
                  obtain rfl := Option.some.inj h
                  exact ⟨[], _, rfl, (by repeat (first | exact trivial | exact rfl | (refine And.intro ?_ ?_))), trivial, rfl, rfl, rfl, rfl, rfl⟩
                · refine gok hn ?_
                  refine qn3677 _ _ ?_
                  refine qn3671 _ _ ?_
                  refine COk.sub (ts2 := [(1, .ptr 1 0), (3, .ptr 3 0), (4, .int (k18 : Int)), (5, .ptr 5 0), (49, .sl 4 (List.map eCl a0.classes)), (50, .int (a0.classes.length : Int)), (51, .int (k18 : Int)), (78, .sl 4 (List.map eCl (a0.classes.take (k18 : Int).toNat))), (79, .int ((a0.classes.take (k18 : Int).toNat).length : Int)), (80, .int (k39 : Int))]) (os2 := [(1, .box (eWd a0) 26), (3, .box (eWd r1) 26), (5, .box (eCl x24) 60)]) [] ⟨⟨rfl, rfl, rfl, rfl, (by repeat (first | exact trivial | exact rfl | (refine And.intro ?_ ?_))), rfl, rfl, (by repeat (first | exact trivial | exact rfl | (refine And.intro ?_ ?_))), rfl, rfl, trivial⟩, ⟨rfl, rfl, rfl, trivial⟩, rfl, rfl⟩ (by rw [hn]; rfl) ?_
                  refine gor hn ?_
                  refine Or.inl (And.intro (inrK hx46 hl38) ?_)
                  refine qn3666 _ _ ?_
                  refine EOk.done ?_
                  exact ⟨⟨(rest42, k39 + 1), hd2, h41⟩, [], by show rest42.length < rest42.length + 1; omega, ⟨⟨rfl, rfl, rfl, rfl, (by repeat (first | exact trivial | exact rfl | (refine And.intro ?_ ?_))), rfl, rfl, (by repeat (first | exact trivial | exact rfl | (refine And.intro ?_ ?_))), rfl, rfl, trivial⟩, ⟨rfl, rfl, rfl, trivial⟩, rfl, rfl⟩⟩
            rintro ⟨⟨⟩, rfl⟩
            refine qn3636 _ _ ?_
            refine COk.seqQ fun Q3682 qn3682 qx3682 qr3682 => ?_
            refine gor hn ?_
            refine qn3682 _ _ ?_
            refine COk.seqQ fun Q3683 qn3683 qx3683 qr3683 => ?_
            refine COk.seqQ fun Q3684 qn3684 qx3684 qr3684 => ?_
            refine gor hn ?_
            refine qn3684 _ _ ?_
            obtain ⟨o51, h50, h20⟩ := bindM h20
            refine COk.joinR (ι := { s : Int // o51 = Ctl.next s }) (fun s => [(1, .ptr 1 0), (3, .ptr 3 0), (5, .ptr 5 0), (8, .int (0 : Int)), (9, .int s.1), (49, .sl 4 (List.map eCl a0.classes)), (50, .int (a0.classes.length : Int)), (51, .int (k18 : Int))]) (fun s => [(1, .box (eWd a0) 26), (3, .box (eWd r1) 26), (5, .box (eCl x24) 60)]) (fun Q3701 qn3701 qx3701 qr3701 => ?_) (by intro s; rw [hn]; rfl) ?_
            · refine goc hn ?_
              refine bselM h50 (fun hb52 h50 => ?_) (fun hb52 h50 => ?_)
              · refine COk.seqQ fun Q3702 qn3702 qx3702 qr3702 => ?_
                refine gor hn ?_
                refine qn3702 _ _ ?_
                refine COk.seqQ fun Q3703 qn3703 qx3703 qr3703 => ?_
                refine god hn (by kernel_rfl) ?_
                obtain ⟨x53, hx54, h50⟩ := bindM h50
                refine idxM hx54 ?_
                refine qn3703 _ _ ?_
                refine goc hn ?_
                refine bselM h50 (fun hb55 h50 => ?_) (fun hb55 h50 => ?_)
                · refine COk.seqQ fun Q3705 qn3705 qx3705 qr3705 => ?_
                  refine COk.sub (ts2 := []) (os2 := []) [] ⟨trivial, trivial, rfl, rfl⟩ (by rw [hn]; rfl) ?_
                  refine gor hn ?_
                  refine qn3705 _ _ ?_
                  refine got hn ?_
                  refine qr3701 _ _ ?_
                  refine qr3683 _ _ ?_
                  refine qr3629 _ _ ?_
                  refine qr3543 _ _ ?_
                  refine qr3538 _ _ ?_
                  refine qr3537 _ _ ?_
                  refine qr3536 _ _ ?_
                  refine qr3188 _ _ ?_
                  obtain rfl := Option.some.inj h50
                  obtain rfl := Option.some.inj h20
                  obtain rfl := Option.some.inj h
                  exact ⟨[], _, rfl, (by repeat (first | exact trivial | exact rfl | (refine And.intro ?_ ?_))), trivial, rfl, rfl, rfl, rfl, rfl⟩
                · refine gok hn ?_
                  refine qn3701 _ _ ?_
                  obtain rfl := Option.some.inj h50
                  refine EOk.done ?_
                  exact ⟨⟨_, rfl⟩, [], trivial, ⟨⟨rfl, rfl, rfl, rfl, rfl, (by repeat (first | exact trivial | exact rfl | (refine And.intro ?_ ?_))), rfl, rfl, trivial⟩, ⟨rfl, rfl, rfl, trivial⟩, rfl, rfl⟩⟩
              · refine COk.seqQ fun Q3706 qn3706 qx3706 qr3706 => ?_
                obtain ⟨o58, h57, h50⟩ := bindM h50
                refine COk.joinR (ι := { s : Bool // o58 = s }) (fun s => [(1, .ptr 1 0), (3, .ptr 3 0), (5, .ptr 5 0), (8, .int (0 : Int)), (9, .int (6 : Int)), (49, .sl 4 (List.map eCl a0.classes)), (50, .int (a0.classes.length : Int)), (51, .int (k18 : Int)), (119, .bool s.1)]) (fun s => [(1, .box (eWd a0) 26), (3, .box (eWd r1) 26), (5, .box (eCl x24) 60)]) (fun Q3707 qn3707 qx3707 qr3707 => ?_) (by intro s; rw [hn]; rfl) ?_
                · refine gor hn ?_
                  refine bselM h57 (fun hb59 h57 => ?_) (fun hb59 h57 => ?_)
                  · refine bselT hb59 ?_
                    refine bselT hb59 ?_
                    refine bselT hb59 ?_
                    refine bselT hb59 ?_
                    refine qn3707 _ _ ?_
                    obtain rfl := Option.some.inj h57
                    refine EOk.done ?_
                    exact ⟨⟨_, rfl⟩, [], trivial, ⟨⟨rfl, rfl, rfl, rfl, rfl, (by repeat (first | exact trivial | exact rfl | (refine And.intro ?_ ?_))), rfl, rfl, rfl, trivial⟩, ⟨rfl, rfl, rfl, trivial⟩, rfl, rfl⟩⟩
                  · refine bselF hb59 ?_
                    refine bselF hb59 ?_
                    refine bselF hb59 ?_
                    refine bselF hb59 ?_
                    refine bselM h57 (fun hb60 h57 => ?_) (fun hb60 h57 => ?_)
                    · refine bselT hb60 ?_
                      refine bselT hb60 ?_
                      refine bselT hb60 ?_
                      refine bselT hb60 ?_
                      refine bselT hb60 ?_
                      refine qn3707 _ _ ?_
                      obtain rfl := Option.some.inj h57
                      refine EOk.done ?_
                      exact ⟨⟨_, rfl⟩, [], trivial, ⟨⟨rfl, rfl, rfl, rfl, rfl, (by repeat (first | exact trivial | exact rfl | (refine And.intro ?_ ?_))), rfl, rfl, rfl, trivial⟩, ⟨rfl, rfl, rfl, trivial⟩, rfl, rfl⟩⟩
                    · refine bselF hb60 ?_
                      refine bselF hb60 ?_
                      refine bselF hb60 ?_
                      refine bselM h57 (fun hb61 h57 => ?_) (fun hb61 h57 => ?_)
                      · refine bselT hb61 ?_
                        refine bselT hb61 ?_
                        refine bselF hb60 ?_
                        refine bselT hb61 ?_
                        refine bselF hb60 ?_
                        refine qn3707 _ _ ?_
                        obtain rfl := Option.some.inj h57
                        refine EOk.done ?_
                        exact ⟨⟨_, rfl⟩, [], trivial, ⟨⟨rfl, rfl, rfl, rfl, rfl, (by repeat (first | exact trivial | exact rfl | (refine And.intro ?_ ?_))), rfl, rfl, rfl, trivial⟩, ⟨rfl, rfl, rfl, trivial⟩, rfl, rfl⟩⟩
                      · refine bselF hb61 ?_
                        refine bselF hb61 ?_
                        refine bselF hb60 ?_
                        refine bselF hb61 ?_
                        refine bselF hb60 ?_
                        refine qn3707 _ _ ?_
                        obtain rfl := Option.some.inj h57
                        refine EOk.done ?_
                        exact ⟨⟨_, rfl⟩, [], trivial, ⟨⟨rfl, rfl, rfl, rfl, rfl, (by repeat (first | exact trivial | exact rfl | (refine And.intro ?_ ?_))), rfl, rfl, rfl, trivial⟩, ⟨rfl, rfl, rfl, trivial⟩, rfl, rfl⟩⟩
                rintro ⟨v56, hv_⟩
                replace hv_ := hv_.symm
                subst hv_
                refine qn3706 _ _ ?_
                refine goc hn ?_
                refine bselM h50 (fun hb62 h50 => ?_) (fun hb62 h50 => ?_)
                · refine COk.seqQ fun Q3709 qn3709 qx3709 qr3709 => ?_
                  refine gor hn ?_
                  refine qn3709 _ _ ?_
                  refine got hn ?_
                  refine qr3701 _ _ ?_
                  refine qr3683 _ _ ?_
                  refine qr3629 _ _ ?_
                  refine qr3543 _ _ ?_
                  refine qr3538 _ _ ?_
                  refine qr3537 _ _ ?_
                  refine qr3536 _ _ ?_
                  refine qr3188 _ _ ?_
                  obtain rfl := Option.some.inj h50
                  obtain rfl := Option.some.inj h20
                  obtain rfl := Option.some.inj h
                  exact ⟨[], _, rfl, (by repeat (first | exact trivial | exact rfl | (refine And.intro ?_ ?_))), trivial, rfl, rfl, rfl, rfl, rfl⟩
                · refine gok hn ?_
                  refine qn3701 _ _ ?_
                  obtain rfl := Option.some.inj h50
                  refine EOk.done ?_
                  exact ⟨⟨_, rfl⟩, [], trivial, ⟨⟨rfl, rfl, rfl, rfl, rfl, (by repeat (first | exact trivial | exact rfl | (refine And.intro ?_ ?_))), rfl, rfl, trivial⟩, ⟨rfl, rfl, rfl, trivial⟩, rfl, rfl⟩⟩
            rintro ⟨v49, rfl⟩
            refine qn3683 _ _ ?_
            refine COk.seqQ fun Q3710 qn3710 qx3710 qr3710 => ?_
            obtain ⟨o65, h64, h20⟩ := bindM h20
            refine COk.joinR (ι := { s : Bool // o65 = s }) (fun s => [(1, .ptr 1 0), (3, .ptr 3 0), (49, .sl 4 (List.map eCl a0.classes)), (50, .int (a0.classes.length : Int)), (51, .int (k18 : Int)), (129, .bool s.1)]) (fun s => [(1, .box (eWd a0) 26), (3, .box (eWd r1) 26)]) (fun Q3711 qn3711 qx3711 qr3711 => ?_) (by intro s; rw [hn]; rfl) ?_
            · refine gor hn ?_
              refine bselM h64 (fun hb66 h64 => ?_) (fun hb66 h64 => ?_)
              · refine bselT hb66 ?_
                refine bselT hb66 ?_
                refine bselT hb66 ?_
                refine bselT hb66 ?_
                refine qn3711 _ _ ?_
                obtain rfl := Option.some.inj h64
                refine EOk.done ?_
                exact ⟨⟨_, rfl⟩, [], trivial, ⟨⟨rfl, rfl, (by repeat (first | exact trivial | exact rfl | (refine And.intro ?_ ?_))), rfl, rfl, rfl, trivial⟩, ⟨rfl, rfl, trivial⟩, rfl, rfl⟩⟩
              · refine bselF hb66 ?_
                refine bselF hb66 ?_
                refine bselF hb66 ?_
                refine bselF hb66 ?_
                refine qn3711 _ _ ?_
                obtain rfl := Option.some.inj h64
                refine EOk.done ?_
                exact ⟨⟨_, rfl⟩, [], trivial, ⟨⟨rfl, rfl, (by repeat (first | exact trivial | exact rfl | (refine And.intro ?_ ?_))), rfl, rfl, rfl, trivial⟩, ⟨rfl, rfl, trivial⟩, rfl, rfl⟩⟩
            rintro ⟨v63, hv_⟩
            replace hv_ := hv_.symm
            subst hv_
            refine qn3710 _ _ ?_
            refine goc hn ?_
            refine bselM h20 (fun hb67 h20 => ?_) (fun hb67 h20 => ?_)
            · refine COk.seqQ fun Q3713 qn3713 qx3713 qr3713 => ?_
              refine gor hn ?_
              refine qn3713 _ _ ?_
              refine got hn ?_
              refine qr3629 _ _ ?_
              refine qr3543 _ _ ?_
              refine qr3538 _ _ ?_
              refine qr3537 _ _ ?_
              refine qr3536 _ _ ?_
              refine qr3188 _ _ ?_
              obtain rfl := Option.some.inj h20
              obtain rfl := Option.some.inj h
              exact ⟨[], _, rfl, (by repeat (first | exact trivial | exact rfl | (refine And.intro ?_ ?_))), trivial, rfl, rfl, rfl, rfl, rfl⟩
            · refine gok hn ?_
              refine qn3629 _ _ ?_
              refine qn3543 _ _ ?_
              refine gor hn ?_
              refine Or.inl (And.intro (inrK hx25 hl17) ?_)
              refine qn3538 _ _ ?_
              refine EOk.done ?_
              exact ⟨⟨(rest21, k18 + 1), hd2, h20⟩, [], by show rest21.length < rest21.length + 1; omega, ⟨⟨rfl, rfl, (by repeat (first | exact trivial | exact rfl | (refine And.intro ?_ ?_))), rfl, rfl, trivial⟩, ⟨rfl, rfl, trivial⟩, rfl, rfl⟩⟩
      rintro ⟨⟨⟩, rfl⟩
      refine qn3188 _ _ ?_
      refine COk.seqQ fun Q3714 qn3714 qx3714 qr3714 => ?_
      refine COk.seqQ fun Q3715 qn3715 qx3715 qr3715 => ?_
      refine gor hn ?_
      refine lenM (fun hl68 => ?_)
      refine qn3715 _ _ ?_
      obtain ⟨o70, h71, h⟩ := bindM h
      refine COk.joinR (ι := { s : Unit // o70 = Ctl.next s }) (fun s => [(1, .ptr 1 0)]) (fun s => [(1, .box (eWd a0) 26)]) (fun Q5166 qn5166 qx5166 qr5166 => ?_) (by intro s; rw [hn]; rfl) ?_
      · refine COk.blkQ fun Q5167 qn5167 qe5167 qx5167 qr5167 => ?_
        refine COk.loopQ (ι := { q : ((List Cl) × Nat) // q.1 = a0.classes.drop q.2 ∧ qcref1_Right_l3 N a0 r1 q.1 q.2 = some o70 }) (fun q => [(1, .ptr 1 0), (3, .ptr 3 0), (132, .sl 4 (List.map eCl a0.classes)), (133, .int (a0.classes.length : Int)), (134, .int (q.1.2 : Int))]) (fun q => [(1, .box (eWd a0) 26), (3, .box (eWd r1) 26)]) (fun q => q.1.1.length) ⟨(a0.classes, 0), rfl, h71⟩ [] ⟨⟨rfl, rfl, (by repeat (first | exact trivial | exact rfl | (refine And.intro ?_ ?_))), rfl, rfl, trivial⟩, ⟨rfl, rfl, trivial⟩, rfl, rfl⟩ (by intro q; rw [hn]; rfl) ?_
        rintro ⟨⟨rest_, k69⟩, hd73, h71⟩ Q5168 qn5168 qx5168 qr5168
        replace hd73 : rest_ = a0.classes.drop k69 := hd73
        rcases rest_ with _ | ⟨x75, rest72⟩
        · have hlt77 := restNil hd73
          replace h71 := (qcref1_Right_l3.eq_1 _ _ _ _).symm.trans h71
          refine COk.seqQ fun Q5169 qn5169 qx5169 qr5169 => ?_
          refine gor hn ?_
          refine qn5169 _ _ ?_
          refine COk.seqQ fun Q5170 qn5170 qx5170 qr5170 => ?_
          refine goc hn ?_
          refine bselF hlt77 ?_
          refine goe hn ?_
          refine qx5170 _ _ _ ?_
          refine qx5168 _ _ _ ?_
          refine qe5167 _ _ ?_
          refine qn5166 _ _ ?_
          obtain rfl := Option.some.inj h71
          refine EOk.done ?_
          exact ⟨⟨_, rfl⟩, [], trivial, ⟨⟨rfl, trivial⟩, ⟨rfl, trivial⟩, rfl, rfl⟩⟩
        · obtain ⟨hx76, hd2, hlt77⟩ := restCons hd73
          replace h71 := (qcref1_Right_l3.eq_2 _ _ _ _ _ _).symm.trans h71
          refine COk.seqQ fun Q5171 qn5171 qx5171 qr5171 => ?_
          refine gor hn ?_
          refine qn5171 _ _ ?_
          refine COk.seqQ fun Q5172 qn5172 qx5172 qr5172 => ?_
          refine goc hn ?_
          refine bselT hlt77 ?_
          refine gok hn ?_
          refine qn5172 _ _ ?_
          refine COk.seqQ fun Q5173 qn5173 qx5173 qr5173 => ?_
          refine COk.blkQ fun Q5535 qn5535 qe5535 qx5535 qr5535 => ?_
          refine COk.seqQ fun Q5536 qn5536 qx5536 qr5536 => ?_
          refine gor hn ?_
          refine idxK hx76 ?_
          refine qn5536 _ _ ?_
          refine COk.seqQ fun Q5537 qn5537 qx5537 qr5537 => ?_
          refine COk.seqQ fun Q5538 qn5538 qx5538 qr5538 => ?_
          refine gor hn ?_
          obtain ⟨r78, hr79, h71⟩ := bindM h71
          show CallOk Try.prog _ _ _ _
          refine CallOk.as (qcref1_Slots_ok N a0 (k69 : Int) r78 hr79) (by repeat (first | exact trivial | exact rfl | (refine And.intro ?_ ?_))) trivial rfl ?_
          refine qn5538 _ _ ?_
          refine goc hn ?_
          refine bselM h71 (fun hb80 h71 => ?_) (fun hb80 h71 => ?_)
          · refine COk.seqQ fun Q5540 qn5540 qx5540 qr5540 => ?_
            refine gor hn ?_
            refine qn5540 _ _ ?_
            refine got hn ?_
            refine qr5537 _ _ ?_
            refine qr5535 _ _ ?_
            refine qr5173 _ _ ?_
            refine qr5168 _ _ ?_
            refine qr5167 _ _ ?_
            refine qr5166 _ _ ?_
            refine qr3714 _ _ ?_
            obtain rfl := Option.some.inj h71
            obtain rfl := Option.some.inj h
            exact ⟨[], _, rfl, (by repeat (first | exact trivial | exact rfl | (refine And.intro ?_ ?_))), trivial, rfl, rfl, rfl, rfl, rfl⟩
          · refine gok hn ?_
            refine qn5537 _ _ ?_
            refine COk.seqQ fun Q5541 qn5541 qx5541 qr5541 => ?_
            refine COk.seqQ fun Q5542 qn5542 qx5542 qr5542 => ?_
            refine gor hn ?_
            refine lenM (fun hl81 => ?_)
            refine qn5542 _ _ ?_
            refine goc hn ?_
            refine bselM h71 (fun hb82 h71 => ?_) (fun hb82 h71 => ?_)
            · refine COk.seqQ fun Q5544 qn5544 qx5544 qr5544 => ?_
              refine COk.sub (ts2 := []) (os2 := []) [] ⟨trivial, trivial, rfl, rfl⟩ (by rw [hn]; rfl) ?_
              refine gor hn ?_
              refine qn5544 _ _ ?_
              refine got hn ?_
              refine qr5541 _ _ ?_
              refine qr5535 _ _ ?_
              refine qr5173 _ _ ?_
              refine qr5168 _ _ ?_
              refine qr5167 _ _ ?_
              refine qr5166 _ _ ?_
              refine qr3714 _ _ ?_
              obtain rfl := Option.some.inj h71
              obtain rfl := Option.some.inj h
              exact ⟨[], _, rfl, (by repeat (first | exact trivial | exact rfl | (refine And.intro ?_ ?_))), trivial, rfl, rfl, rfl, rfl, rfl⟩
            · refine gok hn ?_
              refine qn5541 _ _ ?_
              refine COk.seqQ fun Q5545 qn5545 qx5545 qr5545 => ?_
              refine COk.sub (ts2 := [(1, .ptr 1 0), (3, .ptr 3 0), (10, .int (k69 : Int)), (11, .ptr 11 0), (132, .sl 4 (List.map eCl a0.classes)), (133, .int (a0.classes.length : Int)), (134, .int (k69 : Int))]) (os2 := [(1, .box (eWd a0) 26), (3, .box (eWd r1) 26), (11, .box (eCl x75) 60)]) [] ⟨⟨rfl, rfl, rfl, rfl, (by repeat (first | exact trivial | exact rfl | (refine And.intro ?_ ?_))), rfl, rfl, trivial⟩, ⟨rfl, rfl, rfl, trivial⟩, rfl, rfl⟩ (by rw [hn]; rfl) ?_
              refine gor hn ?_
              refine lenM (fun hl83 => ?_)
              refine qn5545 _ _ ?_
              obtain ⟨o85, h86, h71⟩ := bindM h71
              refine COk.joinR (ι := { s : Unit // o85 = Ctl.next s }) (fun s => [(1, .ptr 1 0), (3, .ptr 3 0), (132, .sl 4 (List.map eCl a0.classes)), (133, .int (a0.classes.length : Int)), (134, .int (k69 : Int))]) (fun s => [(1, .box (eWd a0) 26), (3, .box (eWd r1) 26)]) (fun Q5776 qn5776 qx5776 qr5776 => ?_) (by intro s; rw [hn]; rfl) ?_
              · refine COk.blkQ fun Q5777 qn5777 qe5777 qx5777 qr5777 => ?_
                refine COk.loopQ (ι := { q : ((List Me) × Nat) // q.1 = x75.methods.drop q.2 ∧ qcref1_Right_l4 N a0 r1 k69 x75 q.1 q.2 = some o85 }) (fun q => [(1, .ptr 1 0), (3, .ptr 3 0), (10, .int (k69 : Int)), (11, .ptr 11 0), (132, .sl 4 (List.map eCl a0.classes)), (133, .int (a0.classes.length : Int)), (134, .int (k69 : Int)), (148, .sl 5 (List.map eMe x75.methods)), (149, .int (x75.methods.length : Int)), (150, .int (q.1.2 : Int))]) (fun q => [(1, .box (eWd a0) 26), (3, .box (eWd r1) 26), (11, .box (eCl x75) 60)]) (fun q => q.1.1.length) ⟨(x75.methods, 0), rfl, h86⟩ [] ⟨⟨rfl, rfl, rfl, rfl, (by repeat (first | exact trivial | exact rfl | (refine And.intro ?_ ?_))), rfl, rfl, (by repeat (first | exact trivial | exact rfl | (refine And.intro ?_ ?_))), rfl, rfl, trivial⟩, ⟨rfl, rfl, rfl, trivial⟩, rfl, rfl⟩ (by intro q; rw [hn]; rfl) ?_
                rintro ⟨⟨rest_, k84⟩, hd88, h86⟩ Q5778 qn5778 qx5778 qr5778
                replace hd88 : rest_ = x75.methods.drop k84 := hd88
                rcases rest_ with _ | ⟨x90, rest87⟩
                · have hlt92 := restNil hd88
                  replace h86 := (qcref1_Right_l4.eq_1 _ _ _ _ _ _).symm.trans h86
                  refine COk.seqQ fun Q5779 qn5779 qx5779 qr5779 => ?_
                  refine gor hn ?_
                  refine qn5779 _ _ ?_
                  refine COk.seqQ fun Q5780 qn5780 qx5780 qr5780 => ?_
                  refine goc hn ?_
                  refine bselF hlt92 ?_
                  refine goe hn ?_
                  refine qx5780 _ _ _ ?_
                  refine qx5778 _ _ _ ?_
                  refine qe5777 _ _ ?_
                  refine qn5776 _ _ ?_
                  obtain rfl := Option.some.inj h86
                  refine EOk.done ?_
                  exact ⟨⟨_, rfl⟩, [], trivial, ⟨⟨rfl, rfl, (by repeat (first | exact trivial | exact rfl | (refine And.intro ?_ ?_))), rfl, rfl, trivial⟩, ⟨rfl, rfl, trivial⟩, rfl, rfl⟩⟩
                · obtain ⟨hx91, hd2, hlt92⟩ := restCons hd88
                  replace h86 := (qcref1_Right_l4.eq_2 _ _ _ _ _ _ _ _).symm.trans h86
                  refine COk.seqQ fun Q5781 qn5781 qx5781 qr5781 => ?_
                  refine gor hn ?_
                  refine qn5781 _ _ ?_
                  refine COk.seqQ fun Q5782 qn5782 qx5782 qr5782 => ?_
                  refine goc hn ?_
                  refine bselT hlt92 ?_
                  refine gok hn ?_
                  refine qn5782 _ _ ?_
                  refine COk.seqQ fun Q5783 qn5783 qx5783 qr5783 => ?_
                  refine COk.blkQ fun Q5840 qn5840 qe5840 qx5840 qr5840 => ?_
                  refine COk.seqQ fun Q5841 qn5841 qx5841 qr5841 => ?_
                  refine gor hn ?_
                  refine idxK hx91 ?_
                  refine qn5841 _ _ ?_
                  refine COk.seqQ fun Q5842 qn5842 qx5842 qr5842 => ?_
                  refine COk.seqQ fun Q5843 qn5843 qx5843 qr5843 => ?_
                  obtain ⟨o95, h94, h86⟩ := bindM h86
                  refine COk.joinR (ι := { s : Bool // o95 = s }) (fun s => [(1, .ptr 1 0), (3, .ptr 3 0), (10, .int (k69 : Int)), (11, .ptr 11 0), (13, .ptr 13 0), (132, .sl 4 (List.map eCl a0.classes)), (133, .int (a0.classes.length : Int)), (134, .int (k69 : Int)), (148, .sl 5 (List.map eMe x75.methods)), (149, .int (x75.methods.length : Int)), (150, .int (k84 : Int)), (168, .bool s.1)]) (fun s => [(1, .box (eWd a0) 26), (3, .box (eWd r1) 26), (11, .box (eCl x75) 60), (13, .box (eMe x90) 64)]) (fun Q5844 qn5844 qx5844 qr5844 => ?_) (by intro s; rw [hn]; rfl) ?_
                  · refine god hn (by kernel_rfl) ?_
                    refine bselM h94 (fun hb96 h94 => ?_) (fun hb96 h94 => ?_)
                    · refine bselT hb96 ?_
                      refine bselT hb96 ?_
                      refine bselT hb96 ?_
                      refine Or.inr ?_
                      refine bselT hb96 ?_
                      obtain ⟨x97, hx98, h94⟩ := bindM h94
                      refine idxM hx98 ?_
                      refine bselT hb96 ?_
                      refine bselT hb96 ?_
                      refine bselT hb96 ?_
                      refine bselT hb96 ?_
                      refine bselT hb96 ?_
                      refine bselT hb96 ?_
                      refine qn5844 _ _ ?_
                      obtain rfl := Option.some.inj h94
                      refine EOk.done ?_
                      exact ⟨⟨_, rfl⟩, [], trivial, ⟨⟨rfl, rfl, rfl, rfl, rfl, (by repeat (first | exact trivial | exact rfl | (refine And.intro ?_ ?_))), rfl, rfl, (by repeat (first | exact trivial | exact rfl | (refine And.intro ?_ ?_))), rfl, rfl, rfl, trivial⟩, ⟨rfl, rfl, rfl, rfl, trivial⟩, rfl, rfl⟩⟩
                    · refine bselF hb96 ?_
                      refine bselF hb96 ?_
                      refine bselF hb96 ?_
                      refine bselF hb96 ?_
                      refine bselF hb96 ?_
                      refine bselF hb96 ?_
                      refine bselF hb96 ?_
                      refine bselF hb96 ?_
                      refine bselF hb96 ?_
                      refine bselF hb96 ?_
                      refine qn5844 _ _ ?_
                      obtain rfl := Option.some.inj h94
                      refine EOk.done ?_
                      exact ⟨⟨_, rfl⟩, [], trivial, ⟨⟨rfl, rfl, rfl, rfl, rfl, (by repeat (first | exact trivial | exact rfl | (refine And.intro ?_ ?_))), rfl, rfl, (by repeat (first | exact trivial | exact rfl | (refine And.intro ?_ ?_))), rfl, rfl, rfl, trivial⟩, ⟨rfl, rfl, rfl, rfl, trivial⟩, rfl, rfl⟩⟩
                  rintro ⟨v93, hv_⟩
                  replace hv_ := hv_.symm
                  subst hv_
                  refine qn5843 _ _ ?_
                  refine goc hn ?_
                  refine bselM h86 (fun hb99 h86 => ?_) (fun hb99 h86 => ?_)
                  · refine COk.seqQ fun Q5846 qn5846 qx5846 qr5846 => ?_
                    refine gor hn ?_
                    refine qn5846 _ _ ?_
                    refine got hn ?_
                    refine qr5842 _ _ ?_
                    refine qr5840 _ _ ?_
                    refine qr5783 _ _ ?_
                    refine qr5778 _ _ ?_
                    refine qr5777 _ _ ?_
                    refine qr5776 _ _ ?_
                    refine qr5535 _ _ ?_
                    refine qr5173 _ _ ?_
                    refine qr5168 _ _ ?_
                    refine qr5167 _ _ ?_
                    refine qr5166 _ _ ?_
                    refine qr3714 _ _ ?_
                    obtain rfl := Option.some.inj h86
                    obtain rfl := Option.some.inj h71
                    obtain rfl := Option.some.inj h
                    exact ⟨[], _, rfl, (by repeat (first | exact trivial | exact rfl | (refine And.intro ?_ ?_))), trivial, rfl, rfl, rfl, rfl, rfl⟩
                  · refine gok hn ?_
                    refine qn5842 _ _ ?_
                    refine COk.seqQ fun Q5847 qn5847 qx5847 qr5847 => ?_
                    refine gor hn ?_
                    refine qn5847 _ _ ?_
                    refine COk.seqQ fun Q5848 qn5848 qx5848 qr5848 => ?_
                    refine COk.seqQ fun Q5849 qn5849 qx5849 qr5849 => ?_
                    refine gor hn ?_
                    obtain ⟨x100, hx101, h86⟩ := bindM h86
                    refine idxM hx101 ?_
                    refine lenM (fun hl102 => ?_)
                    refine qn5849 _ _ ?_
                    obtain ⟨o107, h108, h86⟩ := bindM h86
                    refine COk.joinR (ι := { s : Bool // o107 = s }) (fun s => [(1, .ptr 1 0), (3, .ptr 3 0), (10, .int (k69 : Int)), (11, .ptr 11 0), (13, .ptr 13 0), (14, .bool s.1), (132, .sl 4 (List.map eCl a0.classes)), (133, .int (a0.classes.length : Int)), (134, .int (k69 : Int)), (148, .sl 5 (List.map eMe x75.methods)), (149, .int (x75.methods.length : Int)), (150, .int (k84 : Int))]) (fun s => [(1, .box (eWd a0) 26), (3, .box (eWd r1) 26), (11, .box (eCl x75) 60), (13, .box (eMe x90) 64)]) (fun Q5877 qn5877 qx5877 qr5877 => ?_) (by intro s; rw [hn]; rfl) ?_
                    · refine COk.blkQ fun Q5878 qn5878 qe5878 qx5878 qr5878 => ?_
                      refine COk.loopQ (ι := { q : ((List Me) × Nat × Bool) // q.1 = x100.methods.drop q.2.1 ∧ qcref1_Right_l5 N k69 x90 q.1 q.2.1 q.2.2 = some o107 }) (fun q => [(1, .ptr 1 0), (3, .ptr 3 0), (10, .int (k69 : Int)), (11, .ptr 11 0), (13, .ptr 13 0), (14, .bool q.1.2.2), (132, .sl 4 (List.map eCl a0.classes)), (133, .int (a0.classes.length : Int)), (134, .int (k69 : Int)), (148, .sl 5 (List.map eMe x75.methods)), (149, .int (x75.methods.length : Int)), (150, .int (k84 : Int)), (173, .sl 5 (List.map eMe x100.methods)), (174, .int (x100.methods.length : Int)), (175, .int (q.1.2.1 : Int))]) (fun q => [(1, .box (eWd a0) 26), (3, .box (eWd r1) 26), (11, .box (eCl x75) 60), (13, .box (eMe x90) 64)]) (fun q => q.1.1.length) ⟨(x100.methods, 0, false), rfl, h108⟩ [] ⟨⟨rfl, rfl, rfl, rfl, rfl, rfl, (by repeat (first | exact trivial | exact rfl | (refine And.intro ?_ ?_))), rfl, rfl, (by repeat (first | exact trivial | exact rfl | (refine And.intro ?_ ?_))), rfl, rfl, (by repeat (first | exact trivial | exact rfl | (refine And.intro ?_ ?_))), rfl, rfl, trivial⟩, ⟨rfl, rfl, rfl, rfl, trivial⟩, rfl, rfl⟩ (by intro q; rw [hn]; rfl) ?_
                      rintro ⟨⟨rest_, k103, v104⟩, hd110, h108⟩ Q5879 qn5879 qx5879 qr5879
                      replace hd110 : rest_ = x100.methods.drop k103 := hd110
                      rcases rest_ with _ | ⟨x112, rest109⟩
                      · have hlt114 := restNil hd110
                        replace h108 := (qcref1_Right_l5.eq_1 _ _ _ _ _).symm.trans h108
                        refine COk.seqQ fun Q5880 qn5880 qx5880 qr5880 => ?_
                        refine gor hn ?_
                        refine qn5880 _ _ ?_
                        refine COk.seqQ fun Q5881 qn5881 qx5881 qr5881 => ?_
                        refine goc hn ?_
                        refine bselF hlt114 ?_
                        refine goe hn ?_
                        refine qx5881 _ _ _ ?_
                        refine qx5879 _ _ _ ?_
                        refine qe5878 _ _ ?_
                        refine qn5877 _ _ ?_
                        obtain rfl := Option.some.inj h108
                        refine EOk.done ?_
                        exact ⟨⟨_, rfl⟩, [], trivial, ⟨⟨rfl, rfl, rfl, rfl, rfl, rfl, (by repeat (first | exact trivial | exact rfl | (refine And.intro ?_ ?_))), rfl, rfl, (by repeat (first | exact trivial | exact rfl | (refine And.intro ?_ ?_))), rfl, rfl, trivial⟩, ⟨rfl, rfl, rfl, rfl, trivial⟩, rfl, rfl⟩⟩
                      · obtain ⟨hx113, hd2, hlt114⟩ := restCons hd110
                        replace h108 := (qcref1_Right_l5.eq_2 _ _ _ _ _ _ _).symm.trans h108
                        refine COk.seqQ fun Q5882 qn5882 qx5882 qr5882 => ?_
                        refine gor hn ?_
                        refine qn5882 _ _ ?_
                        refine COk.seqQ fun Q5883 qn5883 qx5883 qr5883 => ?_
                        refine goc hn ?_
                        refine bselT hlt114 ?_
                        refine gok hn ?_
                        refine qn5883 _ _ ?_
                        refine COk.seqQ fun Q5884 qn5884 qx5884 qr5884 => ?_
                        refine COk.blkQ fun Q5888 qn5888 qe5888 qx5888 qr5888 => ?_
                        refine COk.seqQ fun Q5889 qn5889 qx5889 qr5889 => ?_
                        refine gor hn ?_
                        refine idxK hx113 ?_
                        refine qn5889 _ _ ?_
                        obtain ⟨o117, h116, h108⟩ := bindM h108
                        refine COk.joinR (ι := { s : Bool // o117 = s }) (fun s => [(1, .ptr 1 0), (3, .ptr 3 0), (10, .int (k69 : Int)), (11, .ptr 11 0), (13, .ptr 13 0), (14, .bool s.1), (132, .sl 4 (List.map eCl a0.classes)), (133, .int (a0.classes.length : Int)), (134, .int (k69 : Int)), (148, .sl 5 (List.map eMe x75.methods)), (149, .int (x75.methods.length : Int)), (150, .int (k84 : Int)), (173, .sl 5 (List.map eMe x100.methods)), (174, .int (x100.methods.length : Int)), (175, .int (k103 : Int))]) (fun s => [(1, .box (eWd a0) 26), (3, .box (eWd r1) 26), (11, .box (eCl x75) 60), (13, .box (eMe x90) 64)]) (fun Q5890 qn5890 qx5890 qr5890 => ?_) (by intro s; rw [hn]; rfl) ?_
                        · refine COk.sub (ts2 := [(1, .ptr 1 0), (3, .ptr 3 0), (10, .int (k69 : Int)), (11, .ptr 11 0), (13, .ptr 13 0), (14, .bool v104), (16, .ptr 16 0), (132, .sl 4 (List.map eCl a0.classes)), (133, .int (a0.classes.length : Int)), (134, .int (k69 : Int)), (148, .sl 5 (List.map eMe x75.methods)), (149, .int (x75.methods.length : Int)), (150, .int (k84 : Int)), (173, .sl 5 (List.map eMe x100.methods)), (174, .int (x100.methods.length : Int)), (175, .int (k103 : Int))]) (os2 := [(1, .box (eWd a0) 26), (3, .box (eWd r1) 26), (11, .box (eCl x75) 60), (13, .box (eMe x90) 64), (16, .box (eMe x112) 64)]) [] ⟨⟨rfl, rfl, rfl, rfl, rfl, rfl, rfl, (by repeat (first | exact trivial | exact rfl | (refine And.intro ?_ ?_))), rfl, rfl, (by repeat (first | exact trivial | exact rfl | (refine And.intro ?_ ?_))), rfl, rfl, (by repeat (first | exact trivial | exact rfl | (refine And.intro ?_ ?_))), rfl, rfl, trivial⟩, ⟨rfl, rfl, rfl, rfl, rfl, trivial⟩, rfl, rfl⟩ (by rw [hn]; rfl) ?_
                          refine gor hn ?_
                          refine bselM h116 (fun hb118 h116 => ?_) (fun hb118 h116 => ?_)
                          · refine bselT hb118 ?_
                            refine bselT hb118 ?_
                            refine bselT hb118 ?_
                            refine bselT hb118 ?_
                            refine bselT hb118 ?_
                            refine bselT hb118 ?_
                            refine bselT hb118 ?_
                            refine bselT hb118 ?_
                            refine bselT hb118 ?_
                            refine bselT hb118 ?_
                            refine bselT hb118 ?_
                            refine bselT hb118 ?_
                            refine qn5890 _ _ ?_
                            obtain rfl := Option.some.inj h116
                            refine EOk.done ?_
                            exact ⟨⟨_, rfl⟩, [], trivial, ⟨⟨rfl, rfl, rfl, rfl, rfl, rfl, (by repeat (first | exact trivial | exact rfl | (refine And.intro ?_ ?_))), rfl, rfl, (by repeat (first | exact trivial | exact rfl | (refine And.intro ?_ ?_))), rfl, rfl, (by repeat (first | exact trivial | exact rfl | (refine And.intro ?_ ?_))), rfl, rfl, trivial⟩, ⟨rfl, rfl, rfl, rfl, trivial⟩, rfl, rfl⟩⟩
                          · refine bselF hb118 ?_
                            refine bselF hb118 ?_
                            refine bselM h116 (fun hb119 h116 => ?_) (fun hb119 h116 => ?_)
                            · refine bselT hb119 ?_
                              refine bselT hb119 ?_
                              refine bselT hb119 ?_
                              refine bselT hb119 ?_
                              refine bselF hb118 ?_
                              refine bselT hb119 ?_
                              refine bselF hb118 ?_
                              refine bselM h116 (fun hb120 h116 => ?_) (fun hb120 h116 => ?_)
                              · refine bselT hb120 ?_
                                refine bselT hb120 ?_
                                refine bselT hb120 ?_
                                refine bselT hb120 ?_
                                refine bselF hb118 ?_
                                refine bselT hb120 ?_
                                refine bselF hb118 ?_
                                refine bselM h116 (fun hb121 h116 => ?_) (fun hb121 h116 => ?_)
                                · refine bselT hb121 ?_
                                  refine bselT hb121 ?_
                                  refine bselF hb118 ?_
                                  refine bselT hb121 ?_
                                  refine bselF hb118 ?_
                                  refine bselM h116 (fun hb122 h116 => ?_) (fun hb122 h116 => ?_)
                                  · refine bselT hb122 ?_
                                    refine bselT hb122 ?_
                                    refine bselF hb118 ?_
                                    refine bselT hb122 ?_
                                    refine bselF hb118 ?_
                                    refine bselM h116 (fun hb123 h116 => ?_) (fun hb123 h116 => ?_)
                                    · refine bselT hb123 ?_
                                      refine bselT hb123 ?_
                                      refine lenM (fun hl124 => ?_)
                                      refine bselT hb123 ?_
                                      refine bselF hb118 ?_
                                      refine bselT hb123 ?_
                                      refine bselF hb118 ?_
                                      refine qn5890 _ _ ?_
                                      obtain rfl := Option.some.inj h116
                                      refine EOk.done ?_
                                      exact ⟨⟨_, rfl⟩, [], trivial, ⟨⟨rfl, rfl, rfl, rfl, rfl, rfl, (by repeat (first | exact trivial | exact rfl | (refine And.intro ?_ ?_))), rfl, rfl, (by repeat (first | exact trivial | exact rfl | (refine And.intro ?_ ?_))), rfl, rfl, (by repeat (first | exact trivial | exact rfl | (refine And.intro ?_ ?_))), rfl, rfl, trivial⟩, ⟨rfl, rfl, rfl, rfl, trivial⟩, rfl, rfl⟩⟩
                                    · refine bselF hb123 ?_
                                      refine bselF hb123 ?_
                                      refine bselF hb123 ?_
                                      refine bselF hb118 ?_
                                      refine bselF hb123 ?_
                                      refine bselF hb118 ?_
                                      refine qn5890 _ _ ?_
                                      obtain rfl := Option.some.inj h116
                                      refine EOk.done ?_
                                      exact ⟨⟨_, rfl⟩, [], trivial, ⟨⟨rfl, rfl, rfl, rfl, rfl, rfl, (by repeat (first | exact trivial | exact rfl | (refine And.intro ?_ ?_))), rfl, rfl, (by repeat (first | exact trivial | exact rfl | (refine And.intro ?_ ?_))), rfl, rfl, (by repeat (first | exact trivial | exact rfl | (refine And.intro ?_ ?_))), rfl, rfl, trivial⟩, ⟨rfl, rfl, rfl, rfl, trivial⟩, rfl, rfl⟩⟩
                                  · refine bselF hb122 ?_
                                    refine bselF hb122 ?_
                                    refine bselF hb118 ?_
                                    refine bselF hb122 ?_
                                    refine bselF hb118 ?_
                                    refine bselF hb118 ?_
                                    refine bselF hb118 ?_
                                    refine qn5890 _ _ ?_
                                    obtain rfl := Option.some.inj h116
                                    refine EOk.done ?_
                                    exact ⟨⟨_, rfl⟩, [], trivial, ⟨⟨rfl, rfl, rfl, rfl, rfl, rfl, (by repeat (first | exact trivial | exact rfl | (refine And.intro ?_ ?_))), rfl, rfl, (by repeat (first | exact trivial | exact rfl | (refine And.intro ?_ ?_))), rfl, rfl, (by repeat (first | exact trivial | exact rfl | (refine And.intro ?_ ?_))), rfl, rfl, trivial⟩, ⟨rfl, rfl, rfl, rfl, trivial⟩, rfl, rfl⟩⟩
                                · refine bselF hb121 ?_
                                  refine bselF hb121 ?_
                                  refine bselF hb118 ?_
                                  refine bselF hb121 ?_
                                  refine bselF hb118 ?_
                                  refine bselF hb118 ?_
                                  refine bselF hb118 ?_
                                  refine bselF hb118 ?_
                                  refine bselF hb118 ?_
                                  refine qn5890 _ _ ?_
                                  obtain rfl := Option.some.inj h116
                                  refine EOk.done ?_
                                  exact ⟨⟨_, rfl⟩, [], trivial, ⟨⟨rfl, rfl, rfl, rfl, rfl, rfl, (by repeat (first | exact trivial | exact rfl | (refine And.intro ?_ ?_))), rfl, rfl, (by repeat (first | exact trivial | exact rfl | (refine And.intro ?_ ?_))), rfl, rfl, (by repeat (first | exact trivial | exact rfl | (refine And.intro ?_ ?_))), rfl, rfl, trivial⟩, ⟨rfl, rfl, rfl, rfl, trivial⟩, rfl, rfl⟩⟩
                              · refine bselF hb120 ?_
                                refine bselF hb120 ?_
                                refine bselF hb120 ?_
                                refine bselF hb120 ?_
                                refine bselF hb118 ?_
                                refine bselF hb120 ?_
                                refine bselF hb118 ?_
                                refine bselF hb118 ?_
                                refine bselF hb118 ?_
                                refine bselF hb118 ?_
                                refine bselF hb118 ?_
                                refine bselF hb118 ?_
                                refine bselF hb118 ?_
                                refine qn5890 _ _ ?_
                                obtain rfl := Option.some.inj h116
                                refine EOk.done ?_
                                exact ⟨⟨_, rfl⟩, [], trivial, ⟨⟨rfl, rfl, rfl, rfl, rfl, rfl, (by repeat (first | exact trivial | exact rfl | (refine And.intro ?_ ?_))), rfl, rfl, (by repeat (first | exact trivial | exact rfl | (refine And.intro ?_ ?_))), rfl, rfl, (by repeat (first | exact trivial | exact rfl | (refine And.intro ?_ ?_))), rfl, rfl, trivial⟩, ⟨rfl, rfl, rfl, rfl, trivial⟩, rfl, rfl⟩⟩
                            · refine bselF hb119 ?_
                              refine bselF hb119 ?_
                              refine bselF hb119 ?_
                              refine bselF hb119 ?_
                              refine bselF hb118 ?_
                              refine bselF hb119 ?_
                              refine bselF hb118 ?_
                              refine bselF hb118 ?_
                              refine bselF hb118 ?_
                              refine bselF hb118 ?_
                              refine bselF hb118 ?_
                              refine bselF hb118 ?_
                              refine bselF hb118 ?_
                              refine bselF hb118 ?_
                              refine bselF hb118 ?_
                              refine qn5890 _ _ ?_
                              obtain rfl := Option.some.inj h116
                              refine EOk.done ?_
                              exact ⟨⟨_, rfl⟩, [], trivial, ⟨⟨rfl, rfl, rfl, rfl, rfl, rfl, (by repeat (first | exact trivial | exact rfl | (refine And.intro ?_ ?_))), rfl, rfl, (by repeat (first | exact trivial | exact rfl | (refine And.intro ?_ ?_))), rfl, rfl, (by repeat (first | exact trivial | exact rfl | (refine And.intro ?_ ?_))), rfl, rfl, trivial⟩, ⟨rfl, rfl, rfl, rfl, trivial⟩, rfl, rfl⟩⟩
                        rintro ⟨v115, hv_⟩
                        replace hv_ := hv_.symm
                        subst hv_
                        refine qn5888 _ _ ?_
                        refine qn5884 _ _ ?_
                        refine gor hn ?_
                        refine Or.inl (And.intro (inrK hx113 hl102) ?_)
                        refine qn5879 _ _ ?_
                        refine EOk.done ?_
                        exact ⟨⟨(rest109, k103 + 1, v115), hd2, h108⟩, [], by show rest109.length < rest109.length + 1; omega, ⟨⟨rfl, rfl, rfl, rfl, rfl, rfl, (by repeat (first | exact trivial | exact rfl | (refine And.intro ?_ ?_))), rfl, rfl, (by repeat (first | exact trivial | exact rfl | (refine And.intro ?_ ?_))), rfl, rfl, (by repeat (first | exact trivial | exact rfl | (refine And.intro ?_ ?_))), rfl, rfl, trivial⟩, ⟨rfl, rfl, rfl, rfl, trivial⟩, rfl, rfl⟩⟩
                    rintro ⟨v106, hv_⟩
                    replace hv_ := hv_.symm
                    subst hv_
                    refine qn5848 _ _ ?_
                    refine COk.seqQ fun Q5891 qn5891 qx5891 qr5891 => ?_
                    refine gor hn ?_
                    obtain ⟨r125, hr126, h86⟩ := bindM h86
                    show CallOk Try.prog _ _ _ _
                    refine CallOk.as (qcref1_Check_ok N a0 (k69 : Int) x90 r125 hr126) (by repeat (first | exact trivial | exact rfl | (refine And.intro ?_ ?_))) trivial rfl ?_
                    refine qn5891 _ _ ?_
                    refine COk.seqQ fun Q5892 qn5892 qx5892 qr5892 => ?_
                    obtain ⟨o129, h128, h86⟩ := bindM h86
                    refine COk.joinR (ι := { s : Bool // o129 = s }) (fun s => [(1, .ptr 1 0), (3, .ptr 3 0), (10, .int (k69 : Int)), (11, .ptr 11 0), (17, .ptr 17 0), (132, .sl 4 (List.map eCl a0.classes)), (133, .int (a0.classes.length : Int)), (134, .int (k69 : Int)), (148, .sl 5 (List.map eMe x75.methods)), (149, .int (x75.methods.length : Int)), (150, .int (k84 : Int)), (225, .bool s.1)]) (fun s => [(1, .box (eWd a0) 26), (3, .box (eWd r1) 26), (11, .box (eCl x75) 60), (17, .box (eTFault r125) 95)]) (fun Q5893 qn5893 qx5893 qr5893 => ?_) (by intro s; rw [hn]; rfl) ?_
                    · refine COk.sub (ts2 := [(1, .ptr 1 0), (3, .ptr 3 0), (10, .int (k69 : Int)), (11, .ptr 11 0), (14, .bool v106), (17, .ptr 17 0), (132, .sl 4 (List.map eCl a0.classes)), (133, .int (a0.classes.length : Int)), (134, .int (k69 : Int)), (148, .sl 5 (List.map eMe x75.methods)), (149, .int (x75.methods.length : Int)), (150, .int (k84 : Int))]) (os2 := [(1, .box (eWd a0) 26), (3, .box (eWd r1) 26), (11, .box (eCl x75) 60), (17, .box (eTFault r125) 95)]) [] ⟨⟨rfl, rfl, rfl, rfl, rfl, rfl, (by repeat (first | exact trivial | exact rfl | (refine And.intro ?_ ?_))), rfl, rfl, (by repeat (first | exact trivial | exact rfl | (refine And.intro ?_ ?_))), rfl, rfl, trivial⟩, ⟨rfl, rfl, rfl, rfl, trivial⟩, rfl, rfl⟩ (by rw [hn]; rfl) ?_
                      refine gor hn ?_
                      refine bselM h128 (fun hb130 h128 => ?_) (fun hb130 h128 => ?_)
                      · refine bselT hb130 ?_
                        refine bselT hb130 ?_
                        refine bselT hb130 ?_
                        refine qn5893 _ _ ?_
                        obtain rfl := Option.some.inj h128
                        refine EOk.done ?_
                        exact ⟨⟨_, rfl⟩, [], trivial, ⟨⟨rfl, rfl, rfl, rfl, rfl, (by repeat (first | exact trivial | exact rfl | (refine And.intro ?_ ?_))), rfl, rfl, (by repeat (first | exact trivial | exact rfl | (refine And.intro ?_ ?_))), rfl, rfl, rfl, trivial⟩, ⟨rfl, rfl, rfl, rfl, trivial⟩, rfl, rfl⟩⟩
                      · refine bselF hb130 ?_
                        refine bselF hb130 ?_
                        refine bselF hb130 ?_
                        refine qn5893 _ _ ?_
                        obtain rfl := Option.some.inj h128
                        refine EOk.done ?_
                        exact ⟨⟨_, rfl⟩, [], trivial, ⟨⟨rfl, rfl, rfl, rfl, rfl, (by repeat (first | exact trivial | exact rfl | (refine And.intro ?_ ?_))), rfl, rfl, (by repeat (first | exact trivial | exact rfl | (refine And.intro ?_ ?_))), rfl, rfl, rfl, trivial⟩, ⟨rfl, rfl, rfl, rfl, trivial⟩, rfl, rfl⟩⟩
                    rintro ⟨v127, hv_⟩
                    replace hv_ := hv_.symm
                    subst hv_
                    refine qn5892 _ _ ?_
                    refine goc hn ?_
                    refine bselM h86 (fun hb131 h86 => ?_) (fun hb131 h86 => ?_)
                    · refine COk.seqQ fun Q5895 qn5895 qx5895 qr5895 => ?_
                      refine gor hn ?_
                      refine qn5895 _ _ ?_
                      refine got hn ?_
                      refine qr5840 _ _ ?_
                      refine qr5783 _ _ ?_
                      refine qr5778 _ _ ?_
                      refine qr5777 _ _ ?_
                      refine qr5776 _ _ ?_
                      refine qr5535 _ _ ?_
                      refine qr5173 _ _ ?_
                      refine qr5168 _ _ ?_
                      refine qr5167 _ _ ?_
                      refine qr5166 _ _ ?_
                      refine qr3714 _ _ ?_
                      obtain rfl := Option.some.inj h86
                      obtain rfl := Option.some.inj h71
                      obtain rfl := Option.some.inj h
                      exact ⟨[], _, rfl, (by repeat (first | exact trivial | exact rfl | (refine And.intro ?_ ?_))), trivial, rfl, rfl, rfl, rfl, rfl⟩
                    · refine gok hn ?_
                      refine qn5840 _ _ ?_
                      refine qn5783 _ _ ?_
                      refine gor hn ?_
                      refine Or.inl (And.intro (inrK hx91 hl83) ?_)
                      refine qn5778 _ _ ?_
                      refine EOk.done ?_
                      exact ⟨⟨(rest87, k84 + 1), hd2, h86⟩, [], by show rest87.length < rest87.length + 1; omega, ⟨⟨rfl, rfl, rfl, rfl, (by repeat (first | exact trivial | exact rfl | (refine And.intro ?_ ?_))), rfl, rfl, (by repeat (first | exact trivial | exact rfl | (refine And.intro ?_ ?_))), rfl, rfl, trivial⟩, ⟨rfl, rfl, rfl, trivial⟩, rfl, rfl⟩⟩
              rintro ⟨⟨⟩, rfl⟩
              refine qn5535 _ _ ?_
              refine qn5173 _ _ ?_
              refine gor hn ?_
              refine Or.inl (And.intro (inrK hx76 hl68) ?_)
              refine qn5168 _ _ ?_
              refine EOk.done ?_
              exact ⟨⟨(rest72, k69 + 1), hd2, h71⟩, [], by show rest72.length < rest72.length + 1; omega, ⟨⟨rfl, rfl, (by repeat (first | exact trivial | exact rfl | (refine And.intro ?_ ?_))), rfl, rfl, trivial⟩, ⟨rfl, rfl, trivial⟩, rfl, rfl⟩⟩
      rintro ⟨⟨⟩, rfl⟩
      refine qn3714 _ _ ?_
      refine COk.seqQ fun Q5896 qn5896 qx5896 qr5896 => ?_
      refine COk.seqQ fun Q5897 qn5897 qx5897 qr5897 => ?_
      refine gor hn ?_
      refine lenM (fun hl132 => ?_)
      refine qn5897 _ _ ?_
      obtain ⟨o134, h135, h⟩ := bindM h
      refine COk.joinR (ι := { s : Unit // o134 = Ctl.next s }) (fun s => []) (fun s => []) (fun Q6196 qn6196 qx6196 qr6196 => ?_) (by intro s; rw [hn]; rfl) ?_
      · refine COk.blkQ fun Q6197 qn6197 qe6197 qx6197 qr6197 => ?_
        refine COk.loopQ (ι := { q : ((List Ob) × Nat) // q.1 = a0.heap.drop q.2 ∧ qcref1_Right_l6 N a0 q.1 q.2 = some o134 }) (fun q => [(1, .ptr 1 0), (231, .sl 2 (List.map eOb a0.heap)), (232, .int (a0.heap.length : Int)), (233, .int (q.1.2 : Int))]) (fun q => [(1, .box (eWd a0) 26)]) (fun q => q.1.1.length) ⟨(a0.heap, 0), rfl, h135⟩ [] ⟨⟨rfl, (by repeat (first | exact trivial | exact rfl | (refine And.intro ?_ ?_))), rfl, rfl, trivial⟩, ⟨rfl, trivial⟩, rfl, rfl⟩ (by intro q; rw [hn]; rfl) ?_
        rintro ⟨⟨rest_, k133⟩, hd137, h135⟩ Q6198 qn6198 qx6198 qr6198
        replace hd137 : rest_ = a0.heap.drop k133 := hd137
        rcases rest_ with _ | ⟨x139, rest136⟩
        · have hlt141 := restNil hd137
          replace h135 := (qcref1_Right_l6.eq_1 _ _ _).symm.trans h135
          refine COk.seqQ fun Q6199 qn6199 qx6199 qr6199 => ?_
          refine gor hn ?_
          refine qn6199 _ _ ?_
          refine COk.seqQ fun Q6200 qn6200 qx6200 qr6200 => ?_
          refine goc hn ?_
          refine bselF hlt141 ?_
          refine goe hn ?_
          refine qx6200 _ _ _ ?_
          refine qx6198 _ _ _ ?_
          refine qe6197 _ _ ?_
          refine qn6196 _ _ ?_
          obtain rfl := Option.some.inj h135
          refine EOk.done ?_
          exact ⟨⟨_, rfl⟩, [], trivial, ⟨trivial, trivial, rfl, rfl⟩⟩
        · obtain ⟨hx140, hd2, hlt141⟩ := restCons hd137
          replace h135 := (qcref1_Right_l6.eq_2 _ _ _ _ _).symm.trans h135
          refine COk.seqQ fun Q6201 qn6201 qx6201 qr6201 => ?_
          refine gor hn ?_
          refine qn6201 _ _ ?_
          refine COk.seqQ fun Q6202 qn6202 qx6202 qr6202 => ?_
          refine goc hn ?_
          refine bselT hlt141 ?_
          refine gok hn ?_
          refine qn6202 _ _ ?_
          refine COk.seqQ fun Q6203 qn6203 qx6203 qr6203 => ?_
          refine COk.blkQ fun Q6277 qn6277 qe6277 qx6277 qr6277 => ?_
          refine COk.seqQ fun Q6278 qn6278 qx6278 qr6278 => ?_
          refine gor hn ?_
          refine idxK hx140 ?_
          refine qn6278 _ _ ?_
          refine COk.seqQ fun Q6279 qn6279 qx6279 qr6279 => ?_
          refine COk.seqQ fun Q6280 qn6280 qx6280 qr6280 => ?_
          obtain ⟨o144, h143, h135⟩ := bindM h135
          refine COk.joinR (ι := { s : Bool // o144 = s }) (fun s => [(1, .ptr 1 0), (19, .ptr 19 0), (231, .sl 2 (List.map eOb a0.heap)), (232, .int (a0.heap.length : Int)), (233, .int (k133 : Int)), (267, .bool s.1)]) (fun s => [(1, .box (eWd a0) 26), (19, .box (eOb x139) 99)]) (fun Q6281 qn6281 qx6281 qr6281 => ?_) (by intro s; rw [hn]; rfl) ?_
          · refine COk.sub (ts2 := [(1, .ptr 1 0), (19, .ptr 19 0), (231, .sl 2 (List.map eOb a0.heap)), (232, .int (a0.heap.length : Int)), (233, .int (k133 : Int))]) (os2 := [(1, .box (eWd a0) 26), (19, .box (eOb x139) 99)]) [] ⟨⟨rfl, rfl, (by repeat (first | exact trivial | exact rfl | (refine And.intro ?_ ?_))), rfl, rfl, trivial⟩, ⟨rfl, rfl, trivial⟩, rfl, rfl⟩ (by rw [hn]; rfl) ?_
            refine god hn (by kernel_rfl) ?_
            refine bselM h143 (fun hb145 h143 => ?_) (fun hb145 h143 => ?_)
            · refine bselT hb145 ?_
              refine bselT hb145 ?_
              refine bselT hb145 ?_
              refine bselT hb145 ?_
              refine bselT hb145 ?_
              refine qn6281 _ _ ?_
              obtain rfl := Option.some.inj h143
              refine EOk.done ?_
              exact ⟨⟨_, rfl⟩, [], trivial, ⟨⟨rfl, rfl, (by repeat (first | exact trivial | exact rfl | (refine And.intro ?_ ?_))), rfl, rfl, rfl, trivial⟩, ⟨rfl, rfl, trivial⟩, rfl, rfl⟩⟩
            · refine bselF hb145 ?_
              refine bselF hb145 ?_
              refine bselF hb145 ?_
              refine bselM h143 (fun hb146 h143 => ?_) (fun hb146 h143 => ?_)
              · refine bselT hb146 ?_
                refine bselT hb146 ?_
                refine bselF hb145 ?_
                refine bselT hb146 ?_
                refine bselF hb145 ?_
                refine bselM h143 (fun hb147 h143 => ?_) (fun hb147 h143 => ?_)
                · refine bselT hb147 ?_
                  refine bselT hb147 ?_
                  refine bselT hb147 ?_
                  refine bselT hb147 ?_
                  refine bselT hb147 ?_
                  refine bselT hb147 ?_
                  refine qn6281 _ _ ?_
                  obtain rfl := Option.some.inj h143
                  refine EOk.done ?_
                  exact ⟨⟨_, rfl⟩, [], trivial, ⟨⟨rfl, rfl, (by repeat (first | exact trivial | exact rfl | (refine And.intro ?_ ?_))), rfl, rfl, rfl, trivial⟩, ⟨rfl, rfl, trivial⟩, rfl, rfl⟩⟩
                · refine bselF hb147 ?_
                  refine bselF hb147 ?_
                  refine bselF hb147 ?_
                  refine bselF hb147 ?_
                  refine lenM (fun hl148 => ?_)
                  refine bselF hb147 ?_
                  refine bselF hb147 ?_
                  refine bselM h143 (fun hb149 h143 => ?_) (fun hb149 h143 => ?_)
                  · refine bselT hb149 ?_
                    refine bselT hb149 ?_
                    refine bselT hb149 ?_
                    refine bselT hb149 ?_
                    refine bselT hb149 ?_
                    refine bselT hb149 ?_
                    refine bselT hb149 ?_
                    refine bselT hb149 ?_
                    refine qn6281 _ _ ?_
                    obtain rfl := Option.some.inj h143
                    refine EOk.done ?_
                    exact ⟨⟨_, rfl⟩, [], trivial, ⟨⟨rfl, rfl, (by repeat (first | exact trivial | exact rfl | (refine And.intro ?_ ?_))), rfl, rfl, rfl, trivial⟩, ⟨rfl, rfl, trivial⟩, rfl, rfl⟩⟩
                  · refine bselF hb149 ?_
                    refine bselF hb149 ?_
                    refine lenM (fun hl150 => ?_)
                    refine bselF hb149 ?_
                    refine bselF hb149 ?_
                    refine bselF hb149 ?_
                    refine bselF hb149 ?_
                    obtain ⟨r151, hr152, h143⟩ := bindM h143
                    show CallOk Try.prog _ _ _ _
                    refine CallOk.as (qcref1_Slots_ok N a0 x139.cls r151 hr152) (by repeat (first | exact trivial | exact rfl | (refine And.intro ?_ ?_))) trivial rfl ?_
                    refine bselF hb149 ?_
                    refine bselF hb149 ?_
                    refine qn6281 _ _ ?_
                    obtain rfl := Option.some.inj h143
                    refine EOk.done ?_
                    exact ⟨⟨_, rfl⟩, [], trivial, ⟨⟨rfl, rfl, (by repeat (first | exact trivial | exact rfl | (refine And.intro ?_ ?_))), rfl, rfl, rfl, trivial⟩, ⟨rfl, rfl, trivial⟩, rfl, rfl⟩⟩
              · refine bselF hb146 ?_
                refine bselF hb146 ?_
                refine bselF hb145 ?_
                refine bselF hb146 ?_
                refine bselF hb145 ?_
                refine lenM (fun hl153 => ?_)
                refine bselM h143 (fun hb154 h143 => ?_) (fun hb154 h143 => ?_)
                · refine bselT hb154 ?_
                  refine bselT hb154 ?_
                  refine bselT hb154 ?_
                  refine bselT hb154 ?_
                  refine bselT hb154 ?_
                  refine bselT hb154 ?_
                  refine bselT hb154 ?_
                  refine bselT hb154 ?_
                  refine qn6281 _ _ ?_
                  obtain rfl := Option.some.inj h143
                  refine EOk.done ?_
                  exact ⟨⟨_, rfl⟩, [], trivial, ⟨⟨rfl, rfl, (by repeat (first | exact trivial | exact rfl | (refine And.intro ?_ ?_))), rfl, rfl, rfl, trivial⟩, ⟨rfl, rfl, trivial⟩, rfl, rfl⟩⟩
                · refine bselF hb154 ?_
                  refine bselF hb154 ?_
                  refine lenM (fun hl155 => ?_)
                  refine bselF hb154 ?_
                  refine bselF hb154 ?_
                  refine bselF hb154 ?_
                  refine bselF hb154 ?_
                  obtain ⟨r156, hr157, h143⟩ := bindM h143
                  show CallOk Try.prog _ _ _ _
                  refine CallOk.as (qcref1_Slots_ok N a0 x139.cls r156 hr157) (by repeat (first | exact trivial | exact rfl | (refine And.intro ?_ ?_))) trivial rfl ?_
                  refine bselF hb154 ?_
                  refine bselF hb154 ?_
                  refine qn6281 _ _ ?_
                  obtain rfl := Option.some.inj h143
                  refine EOk.done ?_
                  exact ⟨⟨_, rfl⟩, [], trivial, ⟨⟨rfl, rfl, (by repeat (first | exact trivial | exact rfl | (refine And.intro ?_ ?_))), rfl, rfl, rfl, trivial⟩, ⟨rfl, rfl, trivial⟩, rfl, rfl⟩⟩
          rintro ⟨v142, hv_⟩
          replace hv_ := hv_.symm
          subst hv_
          refine qn6280 _ _ ?_
          refine goc hn ?_
          refine bselM h135 (fun hb158 h135 => ?_) (fun hb158 h135 => ?_)
          · refine COk.seqQ fun Q6283 qn6283 qx6283 qr6283 => ?_
            refine gor hn ?_
            refine qn6283 _ _ ?_
            refine got hn ?_
            refine qr6279 _ _ ?_
            refine qr6277 _ _ ?_
            refine qr6203 _ _ ?_
            refine qr6198 _ _ ?_
            refine qr6197 _ _ ?_
            refine qr6196 _ _ ?_
            refine qr5896 _ _ ?_
            obtain rfl := Option.some.inj h135
            obtain rfl := Option.some.inj h
            exact ⟨[], _, rfl, (by repeat (first | exact trivial | exact rfl | (refine And.intro ?_ ?_))), trivial, rfl, rfl, rfl, rfl, rfl⟩
          · refine gok hn ?_
            refine qn6279 _ _ ?_
            refine COk.seqQ fun Q6284 qn6284 qx6284 qr6284 => ?_
            refine gor hn ?_
            refine lenM (fun hl159 => ?_)
            refine qn6284 _ _ ?_
            obtain ⟨o161, h162, h135⟩ := bindM h135
            refine COk.joinR (ι := { s : Unit // o161 = Ctl.next s }) (fun s => [(1, .ptr 1 0), (231, .sl 2 (List.map eOb a0.heap)), (232, .int (a0.heap.length : Int)), (233, .int (k133 : Int))]) (fun s => [(1, .box (eWd a0) 26)]) (fun Q6330 qn6330 qx6330 qr6330 => ?_) (by intro s; rw [hn]; rfl) ?_
            · refine COk.blkQ fun Q6331 qn6331 qe6331 qx6331 qr6331 => ?_
              refine COk.loopQ (ι := { q : ((List V) × Nat) // q.1 = x139.slots.drop q.2 ∧ qcref1_Right_l7 N a0 q.1 q.2 = some o161 }) (fun q => [(1, .ptr 1 0), (231, .sl 2 (List.map eOb a0.heap)), (232, .int (a0.heap.length : Int)), (233, .int (k133 : Int)), (269, .sl 2 (List.map eV x139.slots)), (270, .int (x139.slots.length : Int)), (271, .int (q.1.2 : Int))]) (fun q => [(1, .box (eWd a0) 26)]) (fun q => q.1.1.length) ⟨(x139.slots, 0), rfl, h162⟩ [] ⟨⟨rfl, (by repeat (first | exact trivial | exact rfl | (refine And.intro ?_ ?_))), rfl, rfl, (by repeat (first | exact trivial | exact rfl | (refine And.intro ?_ ?_))), rfl, rfl, trivial⟩, ⟨rfl, trivial⟩, rfl, rfl⟩ (by intro q; rw [hn]; rfl) ?_
              rintro ⟨⟨rest_, k160⟩, hd164, h162⟩ Q6332 qn6332 qx6332 qr6332
              replace hd164 : rest_ = x139.slots.drop k160 := hd164
              rcases rest_ with _ | ⟨x166, rest163⟩
              · have hlt168 := restNil hd164
                replace h162 := (qcref1_Right_l7.eq_1 _ _ _).symm.trans h162
                refine COk.seqQ fun Q6333 qn6333 qx6333 qr6333 => ?_
                refine gor hn ?_
                refine qn6333 _ _ ?_
                refine COk.seqQ fun Q6334 qn6334 qx6334 qr6334 => ?_
                refine goc hn ?_
                refine bselF hlt168 ?_
                refine goe hn ?_
                refine qx6334 _ _ _ ?_
                refine qx6332 _ _ _ ?_
                refine qe6331 _ _ ?_
                refine qn6330 _ _ ?_
                obtain rfl := Option.some.inj h162
                refine EOk.done ?_
                exact ⟨⟨_, rfl⟩, [], trivial, ⟨⟨rfl, (by repeat (first | exact trivial | exact rfl | (refine And.intro ?_ ?_))), rfl, rfl, trivial⟩, ⟨rfl, trivial⟩, rfl, rfl⟩⟩
              · obtain ⟨hx167, hd2, hlt168⟩ := restCons hd164
                replace h162 := (qcref1_Right_l7.eq_2 _ _ _ _ _).symm.trans h162
                refine COk.seqQ fun Q6335 qn6335 qx6335 qr6335 => ?_
                refine gor hn ?_
                refine qn6335 _ _ ?_
                refine COk.seqQ fun Q6336 qn6336 qx6336 qr6336 => ?_
                refine goc hn ?_
                refine bselT hlt168 ?_
                refine gok hn ?_
                refine qn6336 _ _ ?_
                refine COk.seqQ fun Q6337 qn6337 qx6337 qr6337 => ?_
                refine COk.blkQ fun Q6344 qn6344 qe6344 qx6344 qr6344 => ?_
                refine COk.seqQ fun Q6345 qn6345 qx6345 qr6345 => ?_
                refine gor hn ?_
                refine idxK hx167 ?_
                refine qn6345 _ _ ?_
                refine COk.seqQ fun Q6346 qn6346 qx6346 qr6346 => ?_
                refine gor hn ?_
                refine lenM (fun hl169 => ?_)
                obtain ⟨r170, hr171, h162⟩ := bindM h162
                show CallOk Try.prog _ _ _ _
                refine CallOk.as (qcref1_Wrong_ok N x166 (a0.heap.length : Int) r170 hr171) (by repeat (first | exact trivial | exact rfl | (refine And.intro ?_ ?_))) trivial rfl ?_
                refine qn6346 _ _ ?_
                refine COk.seqQ fun Q6347 qn6347 qx6347 qr6347 => ?_
                refine COk.sub (ts2 := [(1, .ptr 1 0), (22, .int r170), (231, .sl 2 (List.map eOb a0.heap)), (232, .int (a0.heap.length : Int)), (233, .int (k133 : Int)), (269, .sl 2 (List.map eV x139.slots)), (270, .int (x139.slots.length : Int)), (271, .int (k160 : Int))]) (os2 := [(1, .box (eWd a0) 26)]) [] ⟨⟨rfl, rfl, (by repeat (first | exact trivial | exact rfl | (refine And.intro ?_ ?_))), rfl, rfl, (by repeat (first | exact trivial | exact rfl | (refine And.intro ?_ ?_))), rfl, rfl, trivial⟩, ⟨rfl, trivial⟩, rfl, rfl⟩ (by rw [hn]; rfl) ?_
                refine gor hn ?_
                refine qn6347 _ _ ?_
                refine goc hn ?_
                refine bselM h162 (fun hb172 h162 => ?_) (fun hb172 h162 => ?_)
                · refine COk.seqQ fun Q6349 qn6349 qx6349 qr6349 => ?_
                  refine gor hn ?_
                  refine qn6349 _ _ ?_
                  refine got hn ?_
                  refine qr6344 _ _ ?_
                  refine qr6337 _ _ ?_
                  refine qr6332 _ _ ?_
                  refine qr6331 _ _ ?_
                  refine qr6330 _ _ ?_
                  refine qr6277 _ _ ?_
                  refine qr6203 _ _ ?_
                  refine qr6198 _ _ ?_
                  refine qr6197 _ _ ?_
                  refine qr6196 _ _ ?_
                  refine qr5896 _ _ ?_
                  obtain rfl := Option.some.inj h162
                  obtain rfl := Option.some.inj h135
                  obtain rfl := Option.some.inj h
                  exact ⟨[], _, rfl, (by repeat (first | exact trivial | exact rfl | (refine And.intro ?_ ?_))), trivial, rfl, rfl, rfl, rfl, rfl⟩
                · refine gok hn ?_
                  refine qn6344 _ _ ?_
                  refine qn6337 _ _ ?_
                  refine gor hn ?_
                  refine Or.inl (And.intro (inrK hx167 hl159) ?_)
                  refine qn6332 _ _ ?_
                  refine EOk.done ?_
                  exact ⟨⟨(rest163, k160 + 1), hd2, h162⟩, [], by show rest163.length < rest163.length + 1; omega, ⟨⟨rfl, (by repeat (first | exact trivial | exact rfl | (refine And.intro ?_ ?_))), rfl, rfl, (by repeat (first | exact trivial | exact rfl | (refine And.intro ?_ ?_))), rfl, rfl, trivial⟩, ⟨rfl, trivial⟩, rfl, rfl⟩⟩
            rintro ⟨⟨⟩, rfl⟩
            refine qn6277 _ _ ?_
            refine qn6203 _ _ ?_
            refine gor hn ?_
            refine Or.inl (And.intro (inrK hx140 hl132) ?_)
            refine qn6198 _ _ ?_
            refine EOk.done ?_
            exact ⟨⟨(rest136, k133 + 1), hd2, h135⟩, [], by show rest136.length < rest136.length + 1; omega, ⟨⟨rfl, (by repeat (first | exact trivial | exact rfl | (refine And.intro ?_ ?_))), rfl, rfl, trivial⟩, ⟨rfl, trivial⟩, rfl, rfl⟩⟩
      rintro ⟨⟨⟩, rfl⟩
      refine qn5896 _ _ ?_
      refine COk.seqQ fun Q6350 qn6350 qx6350 qr6350 => ?_
      refine gor hn ?_
      refine qn6350 _ _ ?_
      refine got hn ?_
      obtain rfl := Option.some.inj h
      exact ⟨[], _, rfl, (by repeat (first | exact trivial | exact rfl | (refine And.intro ?_ ?_))), trivial, rfl, rfl, rfl, rfl, rfl⟩
end Go.Proofs.Ytoceeiamcfdnlaa
