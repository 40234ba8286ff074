/- Walks after the mirrors. Printed by mir.py. -/
import Derived.Test.YtoceeiamcfdnlaaWk2
namespace Go.Proofs.Ytoceeiamcfdnlaa
open Go.RowKit
set_option linter.unusedVariables false
/- class.order -/
set_option maxRecDepth 100000 in
set_option maxHeartbeats 1000000 in
theorem class_order_ok (N : Nat) (a0 : Me) (a1 : ByteArray) (r : Int) (h : class_order N a0 a1 = some r) : Spec Try.prog 67 [] [.agg (eMe a0), .str a1] (.int r) [] [] := by
  refine Spec.of tabOk Try.func67 rfl Try.ntmps67 (by kernel_rfl) rfl rfl rfl fun Γ hn => ?_
  unfold class_order at h
  refine COk.seqQ fun Q3 qn3 qx3 qr3 => ?_
  refine gor hn ?_
  refine qn3 _ _ ?_
  refine COk.seqQ fun Q4 qn4 qx4 qr4 => ?_
  refine gor hn ?_
  obtain ⟨r1, hr2, h⟩ := bindM h
  show CallOk Try.prog _ _ _ _
  refine CallOk.as (cmp_Compare_string_ok N a0.name a1 r1 hr2) (by repeat (first | exact trivial | exact rfl | (refine And.intro ?_ ?_))) trivial rfl ?_
  refine qn4 _ _ ?_
  refine got hn ?_
  obtain rfl := Option.some.inj h
  exact ⟨[], _, rfl, (by repeat (first | exact trivial | exact rfl | (refine And.intro ?_ ?_))), trivial, rfl, rfl, rfl, rfl, rfl⟩

/- class.Find -/
set_option maxRecDepth 100000 in
set_option maxHeartbeats 1000000 in
theorem class_Find_ok (N : Nat) (a0 : Wd) (a1 : Int) (a2 : ByteArray) (r : (Int × Int)) (h : class_Find N a0 a1 a2 = some r) : Spec Try.prog 39 [] [.agg (eWd a0), .int a1, .str a2] (.tup [.int r.1, .int r.2]) [] [] := by
  refine Spec.of tabOk Try.func39 rfl Try.ntmps39 (by kernel_rfl) rfl rfl rfl fun Γ hn => ?_
  unfold class_Find at h
  refine COk.seqQ fun Q72 qn72 qx72 qr72 => ?_
  refine gor hn ?_
  refine qn72 _ _ ?_
  refine COk.seqQ fun Q73 qn73 qx73 qr73 => ?_
  refine COk.seqQ fun Q74 qn74 qx74 qr74 => ?_
  refine gor hn ?_
  refine qn74 _ _ ?_
  obtain ⟨o6, h7, h⟩ := bindM h
  refine COk.joinR (ι := { s : Unit // o6 = Ctl.next s }) (fun s => []) (fun s => []) (fun Q123 qn123 qx123 qr123 => ?_) (by intro s; rw [hn]; rfl) ?_
  · refine COk.blkQ fun Q124 qn124 qe124 qx124 qr124 => ?_
    refine COk.loopQ (ι := { q : (Nat × Int × Int) // class_Find_l1 N a0 a2 q.1 q.2.1 q.2.2 = some o6 }) (fun q => [(1, .int q.1.2.1), (2, .str a2), (3, .ptr 3 0), (8, .int q.1.2.2)]) (fun q => [(3, .box (eWd a0) 26)]) (fun q => q.1.1) ⟨(N, a1, (0 : Int)), h7⟩ [] ⟨⟨rfl, rfl, rfl, rfl, trivial⟩, ⟨rfl, trivial⟩, rfl, rfl⟩ (by intro q; rw [hn]; rfl) ?_
    rintro ⟨⟨n_, v2, v3⟩, h7⟩ Q125 qn125 qx125 qr125
    rcases n_ with _ | n10
    · rw [class_Find_l1.eq_1] at h7
      cases h7
    · replace h7 := (class_Find_l1.eq_2 _ _ _ _ _ _).symm.trans h7
      refine COk.seqQ fun Q126 qn126 qx126 qr126 => ?_
      refine COk.seqQ fun Q127 qn127 qx127 qr127 => ?_
      obtain ⟨o13, h12, h7⟩ := bindM h7
      refine COk.joinR (ι := { s : Bool // o13 = s }) (fun s => [(1, .int v2), (2, .str a2), (3, .ptr 3 0), (8, .int v3), (26, .bool s.1)]) (fun s => [(3, .box (eWd a0) 26)]) (fun Q128 qn128 qx128 qr128 => ?_) (by intro s; rw [hn]; rfl) ?_
      · refine gor hn ?_
        refine bselM h12 (fun hb14 h12 => ?_) (fun hb14 h12 => ?_)
        · refine bselT hb14 ?_
          refine bselT hb14 ?_
          refine bselT hb14 ?_
          refine lenM (fun hl15 => ?_)
          refine bselT hb14 ?_
          refine bselT hb14 ?_
          refine bselM h12 (fun hb16 h12 => ?_) (fun hb16 h12 => ?_)
          · refine bselT hb16 ?_
            refine bselT hb16 ?_
            refine bselT hb16 ?_
            refine lenM (fun hl17 => ?_)
            refine bselT hb16 ?_
            refine bselT hb16 ?_
            refine qn128 _ _ ?_
            obtain rfl := Option.some.inj h12
            refine EOk.done ?_
            exact ⟨⟨_, rfl⟩, [], trivial, ⟨⟨rfl, rfl, rfl, rfl, rfl, trivial⟩, ⟨rfl, trivial⟩, rfl, rfl⟩⟩
          · refine bselF hb16 ?_
            refine bselF hb16 ?_
            refine bselF hb16 ?_
            refine bselF hb16 ?_
            refine bselF hb16 ?_
            refine qn128 _ _ ?_
            obtain rfl := Option.some.inj h12
            refine EOk.done ?_
            exact ⟨⟨_, rfl⟩, [], trivial, ⟨⟨rfl, rfl, rfl, rfl, rfl, trivial⟩, ⟨rfl, trivial⟩, rfl, rfl⟩⟩
        · refine bselF hb14 ?_
          refine bselF hb14 ?_
          refine bselF hb14 ?_
          refine bselF hb14 ?_
          refine bselF hb14 ?_
          refine qn128 _ _ ?_
          obtain rfl := Option.some.inj h12
          refine EOk.done ?_
          exact ⟨⟨_, rfl⟩, [], trivial, ⟨⟨rfl, rfl, rfl, rfl, rfl, trivial⟩, ⟨rfl, trivial⟩, rfl, rfl⟩⟩
      rintro ⟨v11, hv_⟩
      replace hv_ := hv_.symm
      subst hv_
      refine qn127 _ _ ?_
      refine goc hn ?_
      refine bselM h7 (fun hb18 h7 => ?_) (fun hb18 h7 => ?_)
      · refine gok hn ?_
        refine qn126 _ _ ?_
        refine COk.seqQ fun Q129 qn129 qx129 qr129 => ?_
        refine COk.blkQ fun Q136 qn136 qe136 qx136 qr136 => ?_
        refine COk.seqQ fun Q137 qn137 qx137 qr137 => ?_
        refine COk.seqQ fun Q138 qn138 qx138 qr138 => ?_
        refine gor hn ?_
        obtain ⟨x19, hx20, h7⟩ := bindM h7
        refine idxM hx20 ?_
        obtain ⟨r21, hr22, h7⟩ := bindM h7
        show CallOk Try.prog _ _ _ _
        refine CallOk.as (slices_BinarySearchFunc_api_Method_api_Method_string_ok N x19.methods a2 (fun x0_ x1_ => class_order N x0_ x1_) (fun x0_ x1_ y_ hy_ => class_order_ok N x0_ x1_ y_ hy_) r21 hr22) (by repeat (first | exact trivial | exact rfl | (refine And.intro ?_ ?_))) trivial rfl ?_
        refine qn138 _ _ ?_
        refine COk.seqQ fun Q139 qn139 qx139 qr139 => ?_
        refine COk.sub (ts2 := [(1, .int v2), (2, .str a2), (3, .ptr 3 0), (8, .int v3), (9, .int r21.1), (10, .bool r21.2)]) (os2 := [(3, .box (eWd a0) 26)]) [] ⟨⟨rfl, rfl, rfl, rfl, rfl, rfl, trivial⟩, ⟨rfl, trivial⟩, rfl, rfl⟩ (by rw [hn]; rfl) ?_
        refine gor hn ?_
        refine qn139 _ _ ?_
        refine goc hn ?_
        refine bselM h7 (fun hb23 h7 => ?_) (fun hb23 h7 => ?_)
        · refine COk.seqQ fun Q141 qn141 qx141 qr141 => ?_
          refine gor hn ?_
          refine qn141 _ _ ?_
          refine got hn ?_
          refine qr137 _ _ ?_
          refine qr136 _ _ ?_
          refine qr129 _ _ ?_
          refine qr125 _ _ ?_
          refine qr124 _ _ ?_
          refine qr123 _ _ ?_
          refine qr73 _ _ ?_
          obtain rfl := Option.some.inj h7
          obtain rfl := Option.some.inj h
          exact ⟨[], _, rfl, (by repeat (first | exact trivial | exact rfl | (refine And.intro ?_ ?_))), trivial, rfl, rfl, rfl, rfl, rfl⟩
        · refine gok hn ?_
          refine qn137 _ _ ?_
          refine gor hn ?_
          obtain ⟨x24, hx25, h7⟩ := bindM h7
          refine idxM hx25 ?_
          refine qn136 _ _ ?_
          refine qn129 _ _ ?_
          refine gor hn ?_
          refine Or.inr ?_
          refine qn125 _ _ ?_
          refine EOk.done ?_
          exact ⟨⟨(n10, x24.super, (wr (v3 + (1 : Int)))), h7⟩, [], by show n10 < n10 + 1; omega, ⟨⟨rfl, rfl, rfl, rfl, trivial⟩, ⟨rfl, trivial⟩, rfl, rfl⟩⟩
      · refine goe hn ?_
        refine qx126 _ _ _ ?_
        refine qx125 _ _ _ ?_
        refine qe124 _ _ ?_
        refine qn123 _ _ ?_
        obtain rfl := Option.some.inj h7
        refine EOk.done ?_
        exact ⟨⟨_, rfl⟩, [], trivial, ⟨trivial, trivial, rfl, rfl⟩⟩
  rintro ⟨⟨⟩, rfl⟩
  refine qn73 _ _ ?_
  refine COk.seqQ fun Q142 qn142 qx142 qr142 => ?_
  refine gor hn ?_
  refine qn142 _ _ ?_
  refine got hn ?_
  obtain rfl := Option.some.inj h
  exact ⟨[], _, rfl, (by repeat (first | exact trivial | exact rfl | (refine And.intro ?_ ?_))), trivial, rfl, rfl, rfl, rfl, rfl⟩

/- cells.Find -/
set_option maxRecDepth 100000 in
set_option maxHeartbeats 1000000 in
theorem cells_Find_ok (N : Nat) (a0 : (List Ce)) (a1 : Wd) (a2 : St) (a3 : Int) (a4 : ByteArray) (r : ((List Ce) × Int × Int × Bool)) (h : cells_Find N a0 a1 a2 a3 a4 = some r) : Spec Try.prog 20 [] [.sl 6 (List.map eCe a0), .agg (eWd a1), .agg (eSt a2), .int a3, .str a4] (.tup [.own 0, .int r.2.1, .int r.2.2.1, .bool r.2.2.2]) [(0, .row 6 (List.map eCe r.1) 49)] [0] := by
  refine Spec.of tabOk Try.func20 rfl Try.ntmps20 (by kernel_rfl) rfl rfl rfl fun Γ hn => ?_
  unfold cells_Find at h
  refine COk.seqQ fun Q16 qn16 qx16 qr16 => ?_
  refine gor hn ?_
  refine qn16 _ _ ?_
  refine COk.seqQ fun Q17 qn17 qx17 qr17 => ?_
  refine COk.seqQ fun Q18 qn18 qx18 qr18 => ?_
  refine gor hn ?_
  obtain ⟨r1, hr2, h⟩ := bindM h
  show CallOk Try.prog _ _ _ _
  refine CallOk.as (cells_Get_ok N a0 a2 a1.epoch a3 r1 hr2) (by repeat (first | exact trivial | exact rfl | (refine And.intro ?_ ?_))) trivial rfl ?_
  refine qn18 _ _ ?_
  refine COk.seqQ fun Q19 qn19 qx19 qr19 => ?_
  obtain ⟨o5, h4, h⟩ := bindM h
  refine COk.joinR (ι := { s : Bool // o5 = s }) (fun s => [(0, .sl 6 (List.map eCe a0)), (3, .int a3), (4, .str a4), (6, .ptr 6 0), (7, .ptr 7 0), (14, .int r1), (33, .bool s.1)]) (fun s => [(6, .box (eWd a1) 26), (7, .box (eSt a2) 28)]) (fun Q20 qn20 qx20 qr20 => ?_) (by intro s; rw [hn]; rfl) ?_
  · refine COk.sub (ts2 := [(0, .sl 6 (List.map eCe a0)), (3, .int a3), (4, .str a4), (6, .ptr 6 0), (7, .ptr 7 0), (14, .int r1)]) (os2 := [(6, .box (eWd a1) 26), (7, .box (eSt a2) 28)]) [] ⟨⟨(by repeat (first | exact trivial | exact rfl | (refine And.intro ?_ ?_))), rfl, rfl, rfl, rfl, rfl, trivial⟩, ⟨rfl, rfl, trivial⟩, rfl, rfl⟩ (by rw [hn]; rfl) ?_
    refine gor hn ?_
    refine bselM h4 (fun hb6 h4 => ?_) (fun hb6 h4 => ?_)
    · refine bselT hb6 ?_
      refine bselT hb6 ?_
      refine bselT hb6 ?_
      refine lenM (fun hl7 => ?_)
      refine bselT hb6 ?_
      refine bselT hb6 ?_
      refine qn20 _ _ ?_
      obtain rfl := Option.some.inj h4
      refine EOk.done ?_
      exact ⟨⟨_, rfl⟩, [], trivial, ⟨⟨(by repeat (first | exact trivial | exact rfl | (refine And.intro ?_ ?_))), rfl, rfl, rfl, rfl, rfl, rfl, trivial⟩, ⟨rfl, rfl, trivial⟩, rfl, rfl⟩⟩
    · refine bselF hb6 ?_
      refine bselF hb6 ?_
      refine bselF hb6 ?_
      refine bselF hb6 ?_
      refine bselF hb6 ?_
      refine qn20 _ _ ?_
      obtain rfl := Option.some.inj h4
      refine EOk.done ?_
      exact ⟨⟨_, rfl⟩, [], trivial, ⟨⟨(by repeat (first | exact trivial | exact rfl | (refine And.intro ?_ ?_))), rfl, rfl, rfl, rfl, rfl, rfl, trivial⟩, ⟨rfl, rfl, trivial⟩, rfl, rfl⟩⟩
  rintro ⟨v3, hv_⟩
  replace hv_ := hv_.symm
  subst hv_
  refine qn19 _ _ ?_
  refine goc hn ?_
  refine bselM h (fun hb8 h => ?_) (fun hb8 h => ?_)
  · refine COk.seqQ fun Q23 qn23 qx23 qr23 => ?_
    refine gor hn ?_
    obtain ⟨r9, hr10, h⟩ := bindM h
    show CallOk Try.prog _ _ _ _
    refine CallOk.as (class_Find_ok N a1 r1 a4 r9 hr10) (by repeat (first | exact trivial | exact rfl | (refine And.intro ?_ ?_))) trivial rfl ?_
    refine qn23 _ _ ?_
    refine COk.seqQ fun Q24 qn24 qx24 qr24 => ?_
    refine gor hn ?_
    obtain ⟨r11, hr12, h⟩ := bindM h
    show CallOk Try.prog _ _ _ _
    refine CallOk.as ((cells_Own_ok N a0 r11 hr12).sw 0 42) (by repeat (first | exact trivial | exact rfl | (refine And.intro ?_ ?_))) trivial rfl ?_
    refine qn24 _ _ ?_
    refine got hn ?_
    refine qr17 _ _ ?_
    obtain rfl := Option.some.inj h
    exact ⟨[(0, 42)], _, rfl, (by repeat (first | exact trivial | exact rfl | (refine And.intro ?_ ?_))), ⟨rfl, trivial⟩, rfl, rfl, rfl, rfl, rfl⟩
  · refine gok hn ?_
    refine qn17 _ _ ?_
    refine COk.seqQ fun Q25 qn25 qx25 qr25 => ?_
    refine gor hn ?_
    obtain ⟨r13, hr14, h⟩ := bindM h
    show CallOk Try.prog _ _ _ _
    refine CallOk.as (class_Find_ok N a1 a3 a4 r13 hr14) (by repeat (first | exact trivial | exact rfl | (refine And.intro ?_ ?_))) trivial rfl ?_
    refine qn25 _ _ ?_
    refine COk.seqQ fun Q26 qn26 qx26 qr26 => ?_
    refine COk.seqQ fun Q27 qn27 qx27 qr27 => ?_
    refine gor hn ?_
    refine qn27 _ _ ?_
    refine goc hn ?_
    refine bselM h (fun hb15 h => ?_) (fun hb15 h => ?_)
    · refine COk.seqQ fun Q29 qn29 qx29 qr29 => ?_
      refine COk.sub (ts2 := [(0, .sl 6 (List.map eCe a0)), (17, .int r13.1), (18, .int r13.2)]) (os2 := []) [] ⟨⟨(by repeat (first | exact trivial | exact rfl | (refine And.intro ?_ ?_))), rfl, rfl, trivial⟩, trivial, rfl, rfl⟩ (by rw [hn]; rfl) ?_
      refine gor hn ?_
      obtain ⟨r16, hr17, h⟩ := bindM h
      show CallOk Try.prog _ _ _ _
      refine CallOk.as ((cells_Own_ok N a0 r16 hr17).sw 0 55) (by repeat (first | exact trivial | exact rfl | (refine And.intro ?_ ?_))) trivial rfl ?_
      refine qn29 _ _ ?_
      refine got hn ?_
      refine qr26 _ _ ?_
      obtain rfl := Option.some.inj h
      exact ⟨[(0, 55)], _, rfl, (by repeat (first | exact trivial | exact rfl | (refine And.intro ?_ ?_))), ⟨rfl, trivial⟩, rfl, rfl, rfl, rfl, rfl⟩
    · refine gok hn ?_
      refine qn26 _ _ ?_
      refine COk.seqQ fun Q30 qn30 qx30 qr30 => ?_
      refine COk.sub (ts2 := [(0, .sl 6 (List.map eCe a0)), (3, .int a3), (6, .ptr 6 0), (7, .ptr 7 0), (17, .int r13.1), (18, .int r13.2)]) (os2 := [(6, .box (eWd a1) 26), (7, .box (eSt a2) 28)]) [] ⟨⟨(by repeat (first | exact trivial | exact rfl | (refine And.intro ?_ ?_))), rfl, rfl, rfl, rfl, rfl, trivial⟩, ⟨rfl, rfl, trivial⟩, rfl, rfl⟩ (by rw [hn]; rfl) ?_
      refine gor hn ?_
      obtain ⟨r18, hr19, h⟩ := bindM h
      show CallOk Try.prog _ _ _ _
      refine CallOk.as ((cells_Put_ok N a0 a2 a1.epoch a3 r13.1 r18 hr19).sw 0 64) (by repeat (first | exact trivial | exact rfl | (refine And.intro ?_ ?_))) trivial rfl ?_
      refine qn30 _ _ ?_
      refine got hn ?_
      obtain rfl := Option.some.inj h
      exact ⟨[(0, 64)], _, rfl, (by repeat (first | exact trivial | exact rfl | (refine And.intro ?_ ?_))), ⟨rfl, trivial⟩, rfl, rfl, rfl, rfl, rfl⟩

/- qcref1.Ups -/
set_option maxRecDepth 100000 in
set_option maxHeartbeats 1000000 in
theorem qcref1_Ups_ok (N : Nat) (a0 : Wd) (a1 : Int) (r : (List Int)) (h : qcref1_Ups N a0 a1 = some r) : Spec Try.prog 53 [] [.agg (eWd a0), .int a1] (.own 0) [(0, .row 1 (List.map eInt r) 3)] [0] := by
  refine Spec.of tabOk Try.func53 rfl Try.ntmps53 (by kernel_rfl) rfl rfl rfl fun Γ hn => ?_
  unfold qcref1_Ups at h
  refine COk.seqQ fun Q43 qn43 qx43 qr43 => ?_
  refine gor hn ?_
  refine qn43 _ _ ?_
  refine COk.seqQ fun Q44 qn44 qx44 qr44 => ?_
  refine gor hn ?_
  refine qn44 _ _ ?_
  refine COk.seqQ fun Q45 qn45 qx45 qr45 => ?_
  refine COk.nilrow 5 205 1 3 rfl rfl rfl ?_
  obtain ⟨o7, h8, h⟩ := bindM h
  refine COk.joinR (ι := { s : (List Int) // o7 = s }) (fun s => [(5, .own 205)]) (fun s => [(205, .row 1 (List.map eInt s.1) 3)]) (fun Q74 qn74 qx74 qr74 => ?_) (by intro s; rw [hn]; rfl) ?_
  · refine COk.blkQ fun Q75 qn75 qe75 qx75 qr75 => ?_
    refine COk.loopQ (ι := { q : (Nat × Int × (List Int)) // qcref1_Ups_l1 N a0 q.1 q.2.1 q.2.2 = some o7 }) (fun q => [(1, .int q.1.2.1), (2, .ptr 2 0), (5, .own 205)]) (fun q => [(2, .box (eWd a0) 26), (205, .row 1 (List.map eInt q.1.2.2) 3)]) (fun q => q.1.1) ⟨(N, a1, ([] : List Int)), h8⟩ [] ⟨⟨rfl, rfl, rfl, trivial⟩, ⟨rfl, rfl, trivial⟩, rfl, rfl⟩ (by intro q; rw [hn]; rfl) ?_
    rintro ⟨⟨n_, v2, v3⟩, h8⟩ Q76 qn76 qx76 qr76
    rcases n_ with _ | n11
    · rw [qcref1_Ups_l1.eq_1] at h8
      cases h8
    · replace h8 := (qcref1_Ups_l1.eq_2 _ _ _ _ _).symm.trans h8
      refine COk.seqQ fun Q77 qn77 qx77 qr77 => ?_
      refine COk.seqQ fun Q78 qn78 qx78 qr78 => ?_
      obtain ⟨o14, h13, h8⟩ := bindM h8
      refine COk.joinR (ι := { s : Bool // o14 = s }) (fun s => [(1, .int v2), (2, .ptr 2 0), (5, .own 205), (22, .bool s.1)]) (fun s => [(2, .box (eWd a0) 26), (205, .row 1 (List.map eInt v3) 3)]) (fun Q79 qn79 qx79 qr79 => ?_) (by intro s; rw [hn]; rfl) ?_
      · refine gor hn ?_
        refine bselM h13 (fun hb15 h13 => ?_) (fun hb15 h13 => ?_)
        · refine bselT hb15 ?_
          refine bselT hb15 ?_
          refine bselT hb15 ?_
          refine lenM (fun hl16 => ?_)
          refine bselT hb15 ?_
          refine bselT hb15 ?_
          refine bselM h13 (fun hb17 h13 => ?_) (fun hb17 h13 => ?_)
          · refine bselT hb17 ?_
            refine lenM (fun hl18 => ?_)
            refine bselT hb17 ?_
            refine bselT hb17 ?_
            refine bselT hb17 ?_
            refine lenM (fun hl19 => ?_)
            refine bselT hb17 ?_
            refine bselT hb17 ?_
            refine qn79 _ _ ?_
            obtain rfl := Option.some.inj h13
            refine EOk.done ?_
            exact ⟨⟨_, rfl⟩, [], trivial, ⟨⟨rfl, rfl, rfl, rfl, trivial⟩, ⟨rfl, rfl, trivial⟩, rfl, rfl⟩⟩
          · refine bselF hb17 ?_
            refine bselF hb17 ?_
            refine bselF hb17 ?_
            refine bselF hb17 ?_
            refine bselF hb17 ?_
            refine bselF hb17 ?_
            refine qn79 _ _ ?_
            obtain rfl := Option.some.inj h13
            refine EOk.done ?_
            exact ⟨⟨_, rfl⟩, [], trivial, ⟨⟨rfl, rfl, rfl, rfl, trivial⟩, ⟨rfl, rfl, trivial⟩, rfl, rfl⟩⟩
        · refine bselF hb15 ?_
          refine bselF hb15 ?_
          refine bselF hb15 ?_
          refine bselF hb15 ?_
          refine bselF hb15 ?_
          refine qn79 _ _ ?_
          obtain rfl := Option.some.inj h13
          refine EOk.done ?_
          exact ⟨⟨_, rfl⟩, [], trivial, ⟨⟨rfl, rfl, rfl, rfl, trivial⟩, ⟨rfl, rfl, trivial⟩, rfl, rfl⟩⟩
      rintro ⟨v12, hv_⟩
      replace hv_ := hv_.symm
      subst hv_
      refine qn78 _ _ ?_
      refine goc hn ?_
      refine bselM h8 (fun hb20 h8 => ?_) (fun hb20 h8 => ?_)
      · refine gok hn ?_
        refine qn77 _ _ ?_
        refine COk.blkQ fun Q82 qn82 qe82 qx82 qr82 => ?_
        refine COk.seqQ fun Q83 qn83 qx83 qr83 => ?_
        refine gor hn ?_
        refine Exists.intro (List.map eInt [v2]) (And.intro (by repeat (first | exact trivial | exact rfl | (refine And.intro ?_ ?_))) ?_)
        obtain ⟨hg21, h8⟩ := guardM h8
        refine appM (l2 := [v2]) hg21 (leLs_refl _) ?_
        refine qn83 _ _ ?_
        refine gor hn ?_
        obtain ⟨x22, hx23, h8⟩ := bindM h8
        refine idxM hx23 ?_
        refine qn82 _ _ ?_
        refine qn76 _ _ ?_
        refine EOk.done ?_
        exact ⟨⟨(n11, x22.super, (v3 ++ [v2])), h8⟩, [(205, 26)], by show n11 < n11 + 1; omega, ⟨⟨rfl, rfl, rfl, trivial⟩, ⟨rfl, rfl, trivial⟩, rfl, rfl⟩⟩
      · refine goe hn ?_
        refine qx77 _ _ _ ?_
        refine qx76 _ _ _ ?_
        refine qe75 _ _ ?_
        refine qn74 _ _ ?_
        obtain rfl := Option.some.inj h8
        refine EOk.done ?_
        exact ⟨⟨_, rfl⟩, [], trivial, ⟨⟨rfl, trivial⟩, ⟨rfl, trivial⟩, rfl, rfl⟩⟩
  rintro ⟨v6, hv_⟩
  replace hv_ := hv_.symm
  subst hv_
  refine qn45 _ _ ?_
  refine COk.seqQ fun Q84 qn84 qx84 qr84 => ?_
  refine gor hn ?_
  refine qn84 _ _ ?_
  refine got hn ?_
  obtain rfl := Option.some.inj h
  exact ⟨[(0, 205)], _, rfl, (by repeat (first | exact trivial | exact rfl | (refine And.intro ?_ ?_))), ⟨rfl, trivial⟩, rfl, rfl, rfl, rfl, rfl⟩

/- qcref1.Find -/
set_option maxRecDepth 100000 in
set_option maxHeartbeats 1000000 in
theorem qcref1_Find_ok (N : Nat) (a0 : Wd) (a1 : Int) (a2 : ByteArray) (r : (Int × Int)) (h : qcref1_Find N a0 a1 a2 = some r) : Spec Try.prog 21 [] [.agg (eWd a0), .int a1, .str a2] (.tup [.int r.1, .int r.2]) [] [] := by
  refine Spec.of tabOk Try.func21 rfl Try.ntmps21 (by kernel_rfl) rfl rfl rfl fun Γ hn => ?_
  unfold qcref1_Find at h
  refine COk.seqQ fun Q301 qn301 qx301 qr301 => ?_
  refine gor hn ?_
  refine qn301 _ _ ?_
  refine COk.seqQ fun Q302 qn302 qx302 qr302 => ?_
  refine COk.seqQ fun Q303 qn303 qx303 qr303 => ?_
  refine gor hn ?_
  obtain ⟨r1, hr2, h⟩ := bindM h
  show CallOk Try.prog _ _ _ _
  refine CallOk.as ((qcref1_Ups_ok N a0 a1 r1 hr2).sw 0 14) (by repeat (first | exact trivial | exact rfl | (refine And.intro ?_ ?_))) trivial rfl ?_
  refine lenM (fun hl3 => ?_)
  refine qn303 _ _ ?_
  obtain ⟨o5, h6, h⟩ := bindM h
  refine COk.joinR (ι := { s : Unit // o5 = Ctl.next s }) (fun s => []) (fun s => []) (fun Q498 qn498 qx498 qr498 => ?_) (by intro s; rw [hn]; rfl) ?_
  · refine COk.blkQ fun Q499 qn499 qe499 qx499 qr499 => ?_
    refine COk.loopQ (ι := { q : ((List Int) × Nat) // q.1 = r1.drop q.2 ∧ qcref1_Find_l1 N a0 a2 r1 q.1 q.2 = some o5 }) (fun q => [(2, .str a2), (3, .ptr 3 0), (14, .own 14), (15, .int (r1.length : Int)), (16, .int (q.1.2 : Int))]) (fun q => [(3, .box (eWd a0) 26), (14, .row 1 (List.map eInt r1) 3)]) (fun q => q.1.1.length) ⟨(r1, 0), rfl, h6⟩ [] ⟨⟨rfl, rfl, rfl, rfl, rfl, trivial⟩, ⟨rfl, rfl, trivial⟩, rfl, rfl⟩ (by intro q; rw [hn]; rfl) ?_
    rintro ⟨⟨rest_, k4⟩, hd8, h6⟩ Q500 qn500 qx500 qr500
    replace hd8 : rest_ = r1.drop k4 := hd8
    rcases rest_ with _ | ⟨x10, rest7⟩
    · have hlt12 := restNil hd8
      replace h6 := (qcref1_Find_l1.eq_1 _ _ _ _ _).symm.trans h6
      refine COk.seqQ fun Q501 qn501 qx501 qr501 => ?_
      refine gor hn ?_
      refine qn501 _ _ ?_
      refine COk.seqQ fun Q502 qn502 qx502 qr502 => ?_
      refine goc hn ?_
      refine bselF hlt12 ?_
      refine goe hn ?_
      refine qx502 _ _ _ ?_
      refine qx500 _ _ _ ?_
      refine qe499 _ _ ?_
      refine qn498 _ _ ?_
      obtain rfl := Option.some.inj h6
      refine EOk.done ?_
      exact ⟨⟨_, rfl⟩, [], trivial, ⟨trivial, trivial, rfl, rfl⟩⟩
    · obtain ⟨hx11, hd2, hlt12⟩ := restCons hd8
      replace h6 := (qcref1_Find_l1.eq_2 _ _ _ _ _ _ _).symm.trans h6
      refine COk.seqQ fun Q503 qn503 qx503 qr503 => ?_
      refine gor hn ?_
      refine qn503 _ _ ?_
      refine COk.seqQ fun Q504 qn504 qx504 qr504 => ?_
      refine goc hn ?_
      refine bselT hlt12 ?_
      refine gok hn ?_
      refine qn504 _ _ ?_
      refine COk.seqQ fun Q505 qn505 qx505 qr505 => ?_
      refine COk.blkQ fun Q553 qn553 qe553 qx553 qr553 => ?_
      refine COk.seqQ fun Q554 qn554 qx554 qr554 => ?_
      refine gor hn ?_
      obtain ⟨x13, hx14, h6⟩ := bindM h6
      refine ownM hx14 ?_
      refine ldM (nthO_some hx14).2 ?_
      refine qn554 _ _ ?_
      refine COk.seqQ fun Q555 qn555 qx555 qr555 => ?_
      refine gor hn ?_
      obtain ⟨x15, hx16, h6⟩ := bindM h6
      refine idxM hx16 ?_
      refine lenM (fun hl17 => ?_)
      refine qn555 _ _ ?_
      obtain ⟨o19, h20, h6⟩ := bindM h6
      refine COk.joinR (ι := { s : Unit // o19 = Ctl.next s }) (fun s => [(2, .str a2), (3, .ptr 3 0), (14, .own 14), (15, .int (r1.length : Int)), (16, .int (k4 : Int))]) (fun s => [(3, .box (eWd a0) 26), (14, .row 1 (List.map eInt r1) 3)]) (fun Q582 qn582 qx582 qr582 => ?_) (by intro s; rw [hn]; rfl) ?_
      · refine COk.blkQ fun Q583 qn583 qe583 qx583 qr583 => ?_
        refine COk.loopQ (ι := { q : ((List Me) × Nat) // q.1 = x15.methods.drop q.2 ∧ qcref1_Find_l2 N a2 x13 q.1 q.2 = some o19 }) (fun q => [(2, .str a2), (3, .ptr 3 0), (9, .int x13), (14, .own 14), (15, .int (r1.length : Int)), (16, .int (k4 : Int)), (25, .sl 5 (List.map eMe x15.methods)), (26, .int (x15.methods.length : Int)), (27, .int (q.1.2 : Int))]) (fun q => [(3, .box (eWd a0) 26), (14, .row 1 (List.map eInt r1) 3)]) (fun q => q.1.1.length) ⟨(x15.methods, 0), rfl, h20⟩ [] ⟨⟨rfl, rfl, rfl, rfl, rfl, rfl, (by repeat (first | exact trivial | exact rfl | (refine And.intro ?_ ?_))), rfl, rfl, trivial⟩, ⟨rfl, rfl, trivial⟩, rfl, rfl⟩ (by intro q; rw [hn]; rfl) ?_
        rintro ⟨⟨rest_, k18⟩, hd22, h20⟩ Q584 qn584 qx584 qr584
        replace hd22 : rest_ = x15.methods.drop k18 := hd22
        rcases rest_ with _ | ⟨x24, rest21⟩
        · have hlt26 := restNil hd22
          replace h20 := (qcref1_Find_l2.eq_1 _ _ _ _).symm.trans h20
          refine COk.seqQ fun Q585 qn585 qx585 qr585 => ?_
          refine gor hn ?_
          refine qn585 _ _ ?_
          refine COk.seqQ fun Q586 qn586 qx586 qr586 => ?_
          refine goc hn ?_
          refine bselF hlt26 ?_
          refine goe hn ?_
          refine qx586 _ _ _ ?_
          refine qx584 _ _ _ ?_
          refine qe583 _ _ ?_
          refine qn582 _ _ ?_
          obtain rfl := Option.some.inj h20
          refine EOk.done ?_
          exact ⟨⟨_, rfl⟩, [], trivial, ⟨⟨rfl, rfl, rfl, rfl, rfl, trivial⟩, ⟨rfl, rfl, trivial⟩, rfl, rfl⟩⟩
        · obtain ⟨hx25, hd2, hlt26⟩ := restCons hd22
          replace h20 := (qcref1_Find_l2.eq_2 _ _ _ _ _ _).symm.trans h20
          refine COk.seqQ fun Q587 qn587 qx587 qr587 => ?_
          refine gor hn ?_
          refine qn587 _ _ ?_
          refine COk.seqQ fun Q588 qn588 qx588 qr588 => ?_
          refine goc hn ?_
          refine bselT hlt26 ?_
          refine gok hn ?_
          refine qn588 _ _ ?_
          refine COk.seqQ fun Q589 qn589 qx589 qr589 => ?_
          refine COk.blkQ fun Q595 qn595 qe595 qx595 qr595 => ?_
          refine COk.seqQ fun Q596 qn596 qx596 qr596 => ?_
          refine gor hn ?_
          refine idxK hx25 ?_
          refine qn596 _ _ ?_
          refine COk.seqQ fun Q597 qn597 qx597 qr597 => ?_
          refine gor hn ?_
          refine qn597 _ _ ?_
          refine goc hn ?_
          refine bselM h20 (fun hb27 h20 => ?_) (fun hb27 h20 => ?_)
          · refine COk.seqQ fun Q599 qn599 qx599 qr599 => ?_
            refine COk.sub (ts2 := [(9, .int x13), (10, .int (k18 : Int))]) (os2 := []) [] ⟨⟨rfl, rfl, trivial⟩, trivial, rfl, rfl⟩ (by rw [hn]; rfl) ?_
            refine gor hn ?_
            refine qn599 _ _ ?_
            refine got hn ?_
            refine qr595 _ _ ?_
            refine qr589 _ _ ?_
            refine qr584 _ _ ?_
            refine qr583 _ _ ?_
            refine qr582 _ _ ?_
            refine qr553 _ _ ?_
            refine qr505 _ _ ?_
            refine qr500 _ _ ?_
            refine qr499 _ _ ?_
            refine qr498 _ _ ?_
            refine qr302 _ _ ?_
            obtain rfl := Option.some.inj h20
            obtain rfl := Option.some.inj h6
            obtain rfl := Option.some.inj h
            exact ⟨[], _, rfl, (by repeat (first | exact trivial | exact rfl | (refine And.intro ?_ ?_))), trivial, rfl, rfl, rfl, rfl, rfl⟩
          · refine gok hn ?_
            refine qn595 _ _ ?_
            refine qn589 _ _ ?_
            refine COk.sub (ts2 := [(2, .str a2), (3, .ptr 3 0), (9, .int x13), (14, .own 14), (15, .int (r1.length : Int)), (16, .int (k4 : Int)), (25, .sl 5 (List.map eMe x15.methods)), (26, .int (x15.methods.length : Int)), (27, .int (k18 : Int))]) (os2 := [(3, .box (eWd a0) 26), (14, .row 1 (List.map eInt r1) 3)]) [] ⟨⟨rfl, rfl, rfl, rfl, rfl, rfl, (by repeat (first | exact trivial | exact rfl | (refine And.intro ?_ ?_))), rfl, rfl, trivial⟩, ⟨rfl, rfl, trivial⟩, rfl, rfl⟩ (by rw [hn]; rfl) ?_
            refine gor hn ?_
            refine Or.inl (And.intro (inrK hx25 hl17) ?_)
            refine qn584 _ _ ?_
            refine EOk.done ?_
            exact ⟨⟨(rest21, k18 + 1), hd2, h20⟩, [], by show rest21.length < rest21.length + 1; omega, ⟨⟨rfl, rfl, rfl, rfl, rfl, rfl, (by repeat (first | exact trivial | exact rfl | (refine And.intro ?_ ?_))), rfl, rfl, trivial⟩, ⟨rfl, rfl, trivial⟩, rfl, rfl⟩⟩
      rintro ⟨⟨⟩, rfl⟩
      refine qn553 _ _ ?_
      refine qn505 _ _ ?_
      refine gor hn ?_
      refine Or.inl (And.intro (inrK hx11 hl3) ?_)
      refine qn500 _ _ ?_
      refine EOk.done ?_
      exact ⟨⟨(rest7, k4 + 1), hd2, h6⟩, [], by show rest7.length < rest7.length + 1; omega, ⟨⟨rfl, rfl, rfl, rfl, rfl, trivial⟩, ⟨rfl, rfl, trivial⟩, rfl, rfl⟩⟩
  rintro ⟨⟨⟩, rfl⟩
  refine qn302 _ _ ?_
  refine COk.seqQ fun Q600 qn600 qx600 qr600 => ?_
  refine gor hn ?_
  refine qn600 _ _ ?_
  refine got hn ?_
  obtain rfl := Option.some.inj h
  exact ⟨[], _, rfl, (by repeat (first | exact trivial | exact rfl | (refine And.intro ?_ ?_))), trivial, rfl, rfl, rfl, rfl, rfl⟩

/- qclaw6.CellsTells -/
set_option maxRecDepth 100000 in
set_option maxHeartbeats 1000000 in
theorem qclaw6_CellsTells_ok (N : Nat) (a0 : (List Ce)) (a1 : Wd) (a2 : St) (a3 : Int) (a4 : Int) (a5 : Int) (a6 : ByteArray) (r : Bool) (h : qclaw6_CellsTells N a0 a1 a2 a3 a4 a5 a6 = some r) : Spec Try.prog 3 [] [.sl 6 (List.map eCe a0), .agg (eWd a1), .agg (eSt a2), .int a3, .int a4, .int a5, .str a6] (.bool r) [] [] := by
  refine Spec.of tabOk Try.func3 rfl Try.ntmps3 (by kernel_rfl) rfl rfl rfl fun Γ hn => ?_
  unfold qclaw6_CellsTells at h
  refine COk.seqQ fun Q29 qn29 qx29 qr29 => ?_
  refine gor hn ?_
  refine qn29 _ _ ?_
  refine COk.seqQ fun Q30 qn30 qx30 qr30 => ?_
  refine COk.seqQ fun Q31 qn31 qx31 qr31 => ?_
  obtain ⟨o3, h2, h⟩ := bindM h
  refine COk.joinR (ι := { s : Bool // o3 = s }) (fun s => [(0, .sl 6 (List.map eCe a0)), (4, .int a4), (6, .str a6), (8, .ptr 8 0), (9, .ptr 9 0), (58, .bool s.1)]) (fun s => [(8, .box (eWd a1) 26), (9, .box (eSt a2) 28)]) (fun Q32 qn32 qx32 qr32 => ?_) (by intro s; rw [hn]; rfl) ?_
  · refine COk.sub (ts2 := [(0, .sl 6 (List.map eCe a0)), (3, .int a3), (4, .int a4), (5, .int a5), (6, .str a6), (8, .ptr 8 0), (9, .ptr 9 0)]) (os2 := [(8, .box (eWd a1) 26), (9, .box (eSt a2) 28)]) [] ⟨⟨(by repeat (first | exact trivial | exact rfl | (refine And.intro ?_ ?_))), rfl, rfl, rfl, rfl, rfl, rfl, trivial⟩, ⟨rfl, rfl, trivial⟩, rfl, rfl⟩ (by rw [hn]; rfl) ?_
    refine god hn (by kernel_rfl) ?_
    obtain ⟨r4, hr5, h2⟩ := bindM h2
    show CallOk Try.prog _ _ _ _
    refine CallOk.as (cells_Get_ok N a0 a2 a3 a4 r4 hr5) (by repeat (first | exact trivial | exact rfl | (refine And.intro ?_ ?_))) trivial rfl ?_
    obtain ⟨r6, hr7, h2⟩ := bindM h2
    show CallOk Try.prog _ _ _ _
    refine CallOk.as (qcref1_Get_ok N a0 a2 a3 a4 r6 hr7) (by repeat (first | exact trivial | exact rfl | (refine And.intro ?_ ?_))) trivial rfl ?_
    refine bselM h2 (fun hb8 h2 => ?_) (fun hb8 h2 => ?_)
    · refine bselT hb8 ?_
      refine bselT hb8 ?_
      refine bselT hb8 ?_
      refine bselT hb8 ?_
      refine bselT hb8 ?_
      refine bselT hb8 ?_
      refine bselT hb8 ?_
      refine bselT hb8 ?_
      refine bselT hb8 ?_
      refine bselT hb8 ?_
      refine bselT hb8 ?_
      refine bselT hb8 ?_
      refine bselT hb8 ?_
      refine bselT hb8 ?_
      refine qn32 _ _ ?_
      obtain rfl := Option.some.inj h2
      refine EOk.done ?_
      exact ⟨⟨_, rfl⟩, [], trivial, ⟨⟨(by repeat (first | exact trivial | exact rfl | (refine And.intro ?_ ?_))), rfl, rfl, rfl, rfl, rfl, trivial⟩, ⟨rfl, rfl, trivial⟩, rfl, rfl⟩⟩
    · refine bselF hb8 ?_
      refine bselF hb8 ?_
      refine bselF hb8 ?_
      refine bselF hb8 ?_
      refine bselF hb8 ?_
      obtain ⟨r9, hr10, h2⟩ := bindM h2
      show CallOk Try.prog _ _ _ _
      refine CallOk.as ((cells_Put_ok N a0 a2 a3 a4 a5 r9 hr10).sw 0 42) (by repeat (first | exact trivial | exact rfl | (refine And.intro ?_ ?_))) trivial rfl ?_
      refine bselF hb8 ?_
      refine bselF hb8 ?_
      refine bselF hb8 ?_
      refine bselF hb8 ?_
      refine bselF hb8 ?_
      refine bselF hb8 ?_
      obtain ⟨r11, hr12, h2⟩ := bindM h2
      show CallOk Try.prog _ _ _ _
      refine CallOk.as ((qcref1_Put_ok N a0 a2 a3 a4 a5 r11 hr12).sw 0 48) (by repeat (first | exact trivial | exact rfl | (refine And.intro ?_ ?_))) trivial rfl ?_
      refine bselF hb8 ?_
      obtain ⟨r13, hr14, h2⟩ := bindM h2
      show CallOk Try.prog _ _ _ _
      refine CallOk.lend (qcref1_SameCells_ok N r9 r11 r13 hr14) (by repeat (first | exact trivial | exact rfl | (refine And.intro ?_ ?_))) rfl ?_
      refine bselF hb8 ?_
      refine bselF hb8 ?_
      refine bselM h2 (fun hb15 h2 => ?_) (fun hb15 h2 => ?_)
      · refine bselT hb15 ?_
        refine bselT hb15 ?_
        refine bselT hb15 ?_
        refine bselT hb15 ?_
        refine bselT hb15 ?_
        refine qn32 _ _ ?_
        obtain rfl := Option.some.inj h2
        refine EOk.done ?_
        exact ⟨⟨_, rfl⟩, [], trivial, ⟨⟨(by repeat (first | exact trivial | exact rfl | (refine And.intro ?_ ?_))), rfl, rfl, rfl, rfl, rfl, trivial⟩, ⟨rfl, rfl, trivial⟩, rfl, rfl⟩⟩
      · refine bselF hb15 ?_
        obtain ⟨r16, hr17, h2⟩ := bindM h2
        show CallOk Try.prog _ _ _ _
        refine CallOk.as ((cells_Own_ok N a0 r16 hr17).sw 0 54) (by repeat (first | exact trivial | exact rfl | (refine And.intro ?_ ?_))) trivial rfl ?_
        refine bselF hb15 ?_
        refine bselF hb15 ?_
        obtain ⟨r18, hr19, h2⟩ := bindM h2
        show CallOk Try.prog _ _ _ _
        refine CallOk.lend (qcref1_SameCells_ok N r16 a0 r18 hr19) (by repeat (first | exact trivial | exact rfl | (refine And.intro ?_ ?_))) rfl ?_
        refine bselF hb15 ?_
        refine bselF hb15 ?_
        refine qn32 _ _ ?_
        obtain rfl := Option.some.inj h2
        refine EOk.done ?_
        exact ⟨⟨_, rfl⟩, [], trivial, ⟨⟨(by repeat (first | exact trivial | exact rfl | (refine And.intro ?_ ?_))), rfl, rfl, rfl, rfl, rfl, trivial⟩, ⟨rfl, rfl, trivial⟩, rfl, rfl⟩⟩
  rintro ⟨v1, hv_⟩
  replace hv_ := hv_.symm
  subst hv_
  refine qn31 _ _ ?_
  refine goc hn ?_
  refine bselM h (fun hb20 h => ?_) (fun hb20 h => ?_)
  · refine COk.seqQ fun Q34 qn34 qx34 qr34 => ?_
    refine gor hn ?_
    refine qn34 _ _ ?_
    refine got hn ?_
    refine qr30 _ _ ?_
    obtain rfl := Option.some.inj h
    exact ⟨[], _, rfl, (by repeat (first | exact trivial | exact rfl | (refine And.intro ?_ ?_))), trivial, rfl, rfl, rfl, rfl, rfl⟩
  · refine gok hn ?_
    refine qn30 _ _ ?_
    refine COk.seqQ fun Q35 qn35 qx35 qr35 => ?_
    refine COk.seqQ fun Q36 qn36 qx36 qr36 => ?_
    refine gor hn ?_
    obtain ⟨r21, hr22, h⟩ := bindM h
    show CallOk Try.prog _ _ _ _
    refine CallOk.as (qcref1_Rises_ok N a1 r21 hr22) (by repeat (first | exact trivial | exact rfl | (refine And.intro ?_ ?_))) trivial rfl ?_
    refine qn36 _ _ ?_
    refine goc hn ?_
    refine bselM h (fun hb23 h => ?_) (fun hb23 h => ?_)
    · refine COk.seqQ fun Q38 qn38 qx38 qr38 => ?_
      refine gor hn ?_
      refine qn38 _ _ ?_
      refine got hn ?_
      refine qr35 _ _ ?_
      obtain rfl := Option.some.inj h
      exact ⟨[], _, rfl, (by repeat (first | exact trivial | exact rfl | (refine And.intro ?_ ?_))), trivial, rfl, rfl, rfl, rfl, rfl⟩
    · refine gok hn ?_
      refine qn35 _ _ ?_
      refine COk.seqQ fun Q39 qn39 qx39 qr39 => ?_
      refine gor hn ?_
      obtain ⟨r24, hr25, h⟩ := bindM h
      show CallOk Try.prog _ _ _ _
      refine CallOk.as ((cells_Find_ok N a0 a1 a2 a4 a6 r24 hr25).sw 0 68) (by repeat (first | exact trivial | exact rfl | (refine And.intro ?_ ?_))) trivial rfl ?_
      refine qn39 _ _ ?_
      refine COk.seqQ fun Q40 qn40 qx40 qr40 => ?_
      refine COk.seqQ fun Q41 qn41 qx41 qr41 => ?_
      refine COk.sub (ts2 := [(0, .sl 6 (List.map eCe a0)), (4, .int a4), (6, .str a6), (8, .ptr 8 0), (9, .ptr 9 0), (15, .own 68), (16, .int r24.2.1), (17, .int r24.2.2.1), (18, .bool r24.2.2.2)]) (os2 := [(8, .box (eWd a1) 26), (9, .box (eSt a2) 28), (68, .row 6 (List.map eCe r24.1) 49)]) [] ⟨⟨(by repeat (first | exact trivial | exact rfl | (refine And.intro ?_ ?_))), rfl, rfl, rfl, rfl, rfl, rfl, rfl, rfl, trivial⟩, ⟨rfl, rfl, rfl, trivial⟩, rfl, rfl⟩ (by rw [hn]; rfl) ?_
      refine gor hn ?_
      obtain ⟨r26, hr27, h⟩ := bindM h
      show CallOk Try.prog _ _ _ _
      refine CallOk.as (qcref1_Get_ok N a0 a2 a1.epoch a4 r26 hr27) (by repeat (first | exact trivial | exact rfl | (refine And.intro ?_ ?_))) trivial rfl ?_
      refine qn41 _ _ ?_
      refine COk.seqQ fun Q42 qn42 qx42 qr42 => ?_
      obtain ⟨o30, h29, h⟩ := bindM h
      refine COk.joinR (ι := { s : Bool // o30 = s }) (fun s => [(0, .sl 6 (List.map eCe a0)), (4, .int a4), (6, .str a6), (8, .ptr 8 0), (9, .ptr 9 0), (15, .own 68), (16, .int r24.2.1), (17, .int r24.2.2.1), (18, .bool r24.2.2.2), (19, .int r26), (87, .bool s.1)]) (fun s => [(8, .box (eWd a1) 26), (9, .box (eSt a2) 28), (68, .row 6 (List.map eCe r24.1) 49)]) (fun Q43 qn43 qx43 qr43 => ?_) (by intro s; rw [hn]; rfl) ?_
      · refine gor hn ?_
        refine bselM h29 (fun hb31 h29 => ?_) (fun hb31 h29 => ?_)
        · refine bselT hb31 ?_
          refine bselT hb31 ?_
          refine bselT hb31 ?_
          refine lenM (fun hl32 => ?_)
          refine bselT hb31 ?_
          refine bselT hb31 ?_
          refine qn43 _ _ ?_
          obtain rfl := Option.some.inj h29
          refine EOk.done ?_
          exact ⟨⟨_, rfl⟩, [], trivial, ⟨⟨(by repeat (first | exact trivial | exact rfl | (refine And.intro ?_ ?_))), rfl, rfl, rfl, rfl, rfl, rfl, rfl, rfl, rfl, rfl, trivial⟩, ⟨rfl, rfl, rfl, trivial⟩, rfl, rfl⟩⟩
        · refine bselF hb31 ?_
          refine bselF hb31 ?_
          refine bselF hb31 ?_
          refine bselF hb31 ?_
          refine bselF hb31 ?_
          refine qn43 _ _ ?_
          obtain rfl := Option.some.inj h29
          refine EOk.done ?_
          exact ⟨⟨_, rfl⟩, [], trivial, ⟨⟨(by repeat (first | exact trivial | exact rfl | (refine And.intro ?_ ?_))), rfl, rfl, rfl, rfl, rfl, rfl, rfl, rfl, rfl, rfl, trivial⟩, ⟨rfl, rfl, rfl, trivial⟩, rfl, rfl⟩⟩
      rintro ⟨v28, hv_⟩
      replace hv_ := hv_.symm
      subst hv_
      refine qn42 _ _ ?_
      refine goc hn ?_
      refine bselM h (fun hb33 h => ?_) (fun hb33 h => ?_)
      · refine COk.seqQ fun Q47 qn47 qx47 qr47 => ?_
        refine gor hn ?_
        obtain ⟨r34, hr35, h⟩ := bindM h
        show CallOk Try.prog _ _ _ _
        refine CallOk.as (qcref1_Find_ok N a1 r26 a6 r34 hr35) (by repeat (first | exact trivial | exact rfl | (refine And.intro ?_ ?_))) trivial rfl ?_
        refine qn47 _ _ ?_
        refine COk.seqQ fun Q48 qn48 qx48 qr48 => ?_
        obtain ⟨o38, h37, h⟩ := bindM h
        refine COk.joinR (ι := { s : Bool // o38 = s }) (fun s => [(14, .bool s.1)]) (fun s => []) (fun Q49 qn49 qx49 qr49 => ?_) (by intro s; rw [hn]; rfl) ?_
        · refine COk.sub (ts2 := [(0, .sl 6 (List.map eCe a0)), (15, .own 68), (16, .int r24.2.1), (17, .int r24.2.2.1), (18, .bool r24.2.2.2), (20, .int r34.1), (21, .int r34.2)]) (os2 := [(68, .row 6 (List.map eCe r24.1) 49)]) [] ⟨⟨(by repeat (first | exact trivial | exact rfl | (refine And.intro ?_ ?_))), rfl, rfl, rfl, rfl, rfl, rfl, trivial⟩, ⟨rfl, trivial⟩, rfl, rfl⟩ (by rw [hn]; rfl) ?_
          refine gor hn ?_
          refine bselM h37 (fun hb39 h37 => ?_) (fun hb39 h37 => ?_)
          · refine bselT hb39 ?_
            refine bselT hb39 ?_
            refine bselT hb39 ?_
            refine bselM h37 (fun hb40 h37 => ?_) (fun hb40 h37 => ?_)
            · refine bselT hb40 ?_
              refine bselT hb40 ?_
              refine bselT hb40 ?_
              refine bselM h37 (fun hb41 h37 => ?_) (fun hb41 h37 => ?_)
              · refine bselT hb41 ?_
                refine bselT hb41 ?_
                obtain ⟨r42, hr43, h37⟩ := bindM h37
                show CallOk Try.prog _ _ _ _
                refine CallOk.lend (qcref1_SameCells_ok N r24.1 a0 r42 hr43) (by repeat (first | exact trivial | exact rfl | (refine And.intro ?_ ?_))) rfl ?_
                refine bselT hb41 ?_
                refine qn49 _ _ ?_
                obtain rfl := Option.some.inj h37
                refine EOk.done ?_
                exact ⟨⟨_, rfl⟩, [], trivial, ⟨⟨rfl, trivial⟩, trivial, rfl, rfl⟩⟩
              · refine bselF hb41 ?_
                refine bselF hb41 ?_
                refine bselF hb41 ?_
                refine qn49 _ _ ?_
                obtain rfl := Option.some.inj h37
                refine EOk.done ?_
                exact ⟨⟨_, rfl⟩, [], trivial, ⟨⟨rfl, trivial⟩, trivial, rfl, rfl⟩⟩
            · refine bselF hb40 ?_
              refine bselF hb40 ?_
              refine bselF hb40 ?_
              refine qn49 _ _ ?_
              obtain rfl := Option.some.inj h37
              refine EOk.done ?_
              exact ⟨⟨_, rfl⟩, [], trivial, ⟨⟨rfl, trivial⟩, trivial, rfl, rfl⟩⟩
          · refine bselF hb39 ?_
            refine bselF hb39 ?_
            refine bselF hb39 ?_
            refine qn49 _ _ ?_
            obtain rfl := Option.some.inj h37
            refine EOk.done ?_
            exact ⟨⟨_, rfl⟩, [], trivial, ⟨⟨rfl, trivial⟩, trivial, rfl, rfl⟩⟩
        rintro ⟨v36, hv_⟩
        replace hv_ := hv_.symm
        subst hv_
        refine qn48 _ _ ?_
        refine got hn ?_
        refine qr40 _ _ ?_
        obtain rfl := Option.some.inj h
        exact ⟨[], _, rfl, (by repeat (first | exact trivial | exact rfl | (refine And.intro ?_ ?_))), trivial, rfl, rfl, rfl, rfl, rfl⟩
      · refine gok hn ?_
        refine qn40 _ _ ?_
        refine COk.seqQ fun Q50 qn50 qx50 qr50 => ?_
        refine gor hn ?_
        obtain ⟨r44, hr45, h⟩ := bindM h
        show CallOk Try.prog _ _ _ _
        refine CallOk.as (qcref1_Find_ok N a1 a4 a6 r44 hr45) (by repeat (first | exact trivial | exact rfl | (refine And.intro ?_ ?_))) trivial rfl ?_
        refine qn50 _ _ ?_
        refine COk.seqQ fun Q51 qn51 qx51 qr51 => ?_
        refine COk.sub (ts2 := [(0, .sl 6 (List.map eCe a0)), (4, .int a4), (8, .ptr 8 0), (9, .ptr 9 0), (15, .own 68), (16, .int r24.2.1), (17, .int r24.2.2.1), (18, .bool r24.2.2.2), (22, .int r44.1), (23, .int r44.2)]) (os2 := [(8, .box (eWd a1) 26), (9, .box (eSt a2) 28), (68, .row 6 (List.map eCe r24.1) 49)]) [] ⟨⟨(by repeat (first | exact trivial | exact rfl | (refine And.intro ?_ ?_))), rfl, rfl, rfl, rfl, rfl, rfl, rfl, rfl, rfl, trivial⟩, ⟨rfl, rfl, rfl, trivial⟩, rfl, rfl⟩ (by rw [hn]; rfl) ?_
        refine gor hn ?_
        refine qn51 _ _ ?_
        refine COk.seqQ fun Q52 qn52 qx52 qr52 => ?_
        refine COk.seqQ fun Q53 qn53 qx53 qr53 => ?_
        refine gor hn ?_
        refine qn53 _ _ ?_
        obtain ⟨o48, h47, h⟩ := bindM h
        refine COk.joinR (ι := { s : (List Ce) // o48 = s }) (fun s => [(15, .own 68), (16, .int r24.2.1), (17, .int r24.2.2.1), (18, .bool r24.2.2.2), (22, .int r44.1), (23, .int r44.2), (24, .sl 6 (List.map eCe s.1))]) (fun s => [(68, .row 6 (List.map eCe r24.1) 49)]) (fun Q54 qn54 qx54 qr54 => ?_) (by intro s; rw [hn]; rfl) ?_
        · refine goc hn ?_
          refine bselM h47 (fun hb49 h47 => ?_) (fun hb49 h47 => ?_)
          · refine gor hn ?_
            obtain ⟨r50, hr51, h47⟩ := bindM h47
            show CallOk Try.prog _ _ _ _
            refine CallOk.as ((qcref1_Put_ok N a0 a2 a1.epoch a4 r44.1 r50 hr51).sw 0 127) (by repeat (first | exact trivial | exact rfl | (refine And.intro ?_ ?_))) trivial rfl ?_
            refine qn54 _ _ ?_
            obtain rfl := Option.some.inj h47
            refine EOk.fzAll 127 rfl ?_
            refine EOk.done ?_
            exact ⟨⟨_, rfl⟩, [], trivial, ⟨⟨rfl, rfl, rfl, rfl, rfl, rfl, (by repeat (first | exact trivial | exact rfl | (refine And.intro ?_ ?_))), trivial⟩, ⟨rfl, trivial⟩, rfl, rfl⟩⟩
          · refine gok hn ?_
            refine qn54 _ _ ?_
            obtain rfl := Option.some.inj h47
            refine EOk.done ?_
            exact ⟨⟨_, rfl⟩, [], trivial, ⟨⟨rfl, rfl, rfl, rfl, rfl, rfl, (by repeat (first | exact trivial | exact rfl | (refine And.intro ?_ ?_))), trivial⟩, ⟨rfl, trivial⟩, rfl, rfl⟩⟩
        rintro ⟨v46, hv_⟩
        replace hv_ := hv_.symm
        subst hv_
        refine qn52 _ _ ?_
        refine COk.seqQ fun Q55 qn55 qx55 qr55 => ?_
        obtain ⟨o54, h53, h⟩ := bindM h
        refine COk.joinR (ι := { s : Bool // o54 = s }) (fun s => [(14, .bool s.1)]) (fun s => []) (fun Q56 qn56 qx56 qr56 => ?_) (by intro s; rw [hn]; rfl) ?_
        · refine gor hn ?_
          refine bselM h53 (fun hb55 h53 => ?_) (fun hb55 h53 => ?_)
          · refine bselT hb55 ?_
            refine bselT hb55 ?_
            refine bselT hb55 ?_
            refine bselM h53 (fun hb56 h53 => ?_) (fun hb56 h53 => ?_)
            · refine bselT hb56 ?_
              refine bselT hb56 ?_
              refine bselT hb56 ?_
              refine bselM h53 (fun hb57 h53 => ?_) (fun hb57 h53 => ?_)
              · refine bselT hb57 ?_
                refine bselT hb57 ?_
                obtain ⟨r58, hr59, h53⟩ := bindM h53
                show CallOk Try.prog _ _ _ _
                refine CallOk.lend (qcref1_SameCells_ok N r24.1 v46 r58 hr59) (by repeat (first | exact trivial | exact rfl | (refine And.intro ?_ ?_))) rfl ?_
                refine bselT hb57 ?_
                refine qn56 _ _ ?_
                obtain rfl := Option.some.inj h53
                refine EOk.done ?_
                exact ⟨⟨_, rfl⟩, [], trivial, ⟨⟨rfl, trivial⟩, trivial, rfl, rfl⟩⟩
              · refine bselF hb57 ?_
                refine bselF hb57 ?_
                refine bselF hb57 ?_
                refine qn56 _ _ ?_
                obtain rfl := Option.some.inj h53
                refine EOk.done ?_
                exact ⟨⟨_, rfl⟩, [], trivial, ⟨⟨rfl, trivial⟩, trivial, rfl, rfl⟩⟩
            · refine bselF hb56 ?_
              refine bselF hb56 ?_
              refine bselF hb56 ?_
              refine qn56 _ _ ?_
              obtain rfl := Option.some.inj h53
              refine EOk.done ?_
              exact ⟨⟨_, rfl⟩, [], trivial, ⟨⟨rfl, trivial⟩, trivial, rfl, rfl⟩⟩
          · refine bselF hb55 ?_
            refine bselF hb55 ?_
            refine bselF hb55 ?_
            refine qn56 _ _ ?_
            obtain rfl := Option.some.inj h53
            refine EOk.done ?_
            exact ⟨⟨_, rfl⟩, [], trivial, ⟨⟨rfl, trivial⟩, trivial, rfl, rfl⟩⟩
        rintro ⟨v52, hv_⟩
        replace hv_ := hv_.symm
        subst hv_
        refine qn55 _ _ ?_
        refine got hn ?_
        obtain rfl := Option.some.inj h
        exact ⟨[], _, rfl, (by repeat (first | exact trivial | exact rfl | (refine And.intro ?_ ?_))), trivial, rfl, rfl, rfl, rfl, rfl⟩
end Go.Proofs.Ytoceeiamcfdnlaa
