/- Walks after the mirrors. Printed by mir.py. -/
import Derived.Test.YtoceeiamcfdnlaaWk1
namespace Go.Proofs.Ytoceeiamcfdnlaa
open Go.RowKit
set_option linter.unusedVariables false
/- cmp.isNaN[string] -/
set_option maxRecDepth 100000 in
set_option maxHeartbeats 1000000 in
theorem cmp_isNaN_string_ok (N : Nat) (a0 : ByteArray) (r : Bool) (h : cmp_isNaN_string N a0 = some r) : Spec Try.prog 106 [] [.str a0] (.bool r) [] [] := by
  refine Spec.of tabOk Try.func106 rfl Try.ntmps106 (by kernel_rfl) rfl rfl rfl fun Γ hn => ?_
  unfold cmp_isNaN_string at h
  refine COk.seqQ fun Q3 qn3 qx3 qr3 => ?_
  refine gor hn ?_
  refine qn3 _ _ ?_
  refine COk.seqQ fun Q4 qn4 qx4 qr4 => ?_
  refine gor hn ?_
  refine qn4 _ _ ?_
  refine got hn ?_
  obtain rfl := Option.some.inj h
  exact ⟨[], _, rfl, (by repeat (first | exact trivial | exact rfl | (refine And.intro ?_ ?_))), trivial, rfl, rfl, rfl, rfl, rfl⟩

/- cmp.Compare[string] -/
set_option maxRecDepth 100000 in
set_option maxHeartbeats 1000000 in
theorem cmp_Compare_string_ok (N : Nat) (a0 : ByteArray) (a1 : ByteArray) (r : Int) (h : cmp_Compare_string N a0 a1 = some r) : Spec Try.prog 86 [] [.str a0, .str a1] (.int r) [] [] := by
  refine Spec.of tabOk Try.func86 rfl Try.ntmps86 (by kernel_rfl) rfl rfl rfl fun Γ hn => ?_
  unfold cmp_Compare_string at h
  refine COk.seqQ fun Q29 qn29 qx29 qr29 => ?_
  refine gor hn ?_
  refine qn29 _ _ ?_
  refine COk.seqQ fun Q30 qn30 qx30 qr30 => ?_
  refine gor hn ?_
  obtain ⟨r1, hr2, h⟩ := bindM h
  show CallOk Try.prog _ _ _ _
  refine CallOk.as (cmp_isNaN_string_ok N a0 r1 hr2) (by repeat (first | exact trivial | exact rfl | (refine And.intro ?_ ?_))) trivial rfl ?_
  refine qn30 _ _ ?_
  refine COk.seqQ fun Q31 qn31 qx31 qr31 => ?_
  refine gor hn ?_
  obtain ⟨r3, hr4, h⟩ := bindM h
  show CallOk Try.prog _ _ _ _
  refine CallOk.as (cmp_isNaN_string_ok N a1 r3 hr4) (by repeat (first | exact trivial | exact rfl | (refine And.intro ?_ ?_))) trivial rfl ?_
  refine qn31 _ _ ?_
  refine COk.seqQ fun Q32 qn32 qx32 qr32 => ?_
  refine COk.seqQ fun Q33 qn33 qx33 qr33 => ?_
  refine gor hn ?_
  refine qn33 _ _ ?_
  refine goc hn ?_
  refine bselM h (fun hb5 h => ?_) (fun hb5 h => ?_)
  · refine COk.seqQ fun Q39 qn39 qx39 qr39 => ?_
    refine COk.seqQ fun Q40 qn40 qx40 qr40 => ?_
    refine gor hn ?_
    refine qn40 _ _ ?_
    refine goc hn ?_
    refine bselM h (fun hb6 h => ?_) (fun hb6 h => ?_)
    · refine COk.seqQ fun Q42 qn42 qx42 qr42 => ?_
      refine gor hn ?_
      refine qn42 _ _ ?_
      refine got hn ?_
      refine qr39 _ _ ?_
      refine qr32 _ _ ?_
      obtain rfl := Option.some.inj h
      exact ⟨[], _, rfl, (by repeat (first | exact trivial | exact rfl | (refine And.intro ?_ ?_))), trivial, rfl, rfl, rfl, rfl, rfl⟩
    · refine gok hn ?_
      refine qn39 _ _ ?_
      refine COk.seqQ fun Q43 qn43 qx43 qr43 => ?_
      refine gor hn ?_
      refine qn43 _ _ ?_
      refine got hn ?_
      refine qr32 _ _ ?_
      obtain rfl := Option.some.inj h
      exact ⟨[], _, rfl, (by repeat (first | exact trivial | exact rfl | (refine And.intro ?_ ?_))), trivial, rfl, rfl, rfl, rfl, rfl⟩
  · refine gok hn ?_
    refine qn32 _ _ ?_
    refine COk.seqQ fun Q44 qn44 qx44 qr44 => ?_
    refine COk.seqQ fun Q45 qn45 qx45 qr45 => ?_
    refine gor hn ?_
    refine qn45 _ _ ?_
    refine goc hn ?_
    refine bselM h (fun hb7 h => ?_) (fun hb7 h => ?_)
    · refine COk.seqQ fun Q47 qn47 qx47 qr47 => ?_
      refine gor hn ?_
      refine qn47 _ _ ?_
      refine got hn ?_
      refine qr44 _ _ ?_
      obtain rfl := Option.some.inj h
      exact ⟨[], _, rfl, (by repeat (first | exact trivial | exact rfl | (refine And.intro ?_ ?_))), trivial, rfl, rfl, rfl, rfl, rfl⟩
    · refine gok hn ?_
      refine qn44 _ _ ?_
      refine COk.seqQ fun Q48 qn48 qx48 qr48 => ?_
      refine COk.seqQ fun Q49 qn49 qx49 qr49 => ?_
      refine gor hn ?_
      refine qn49 _ _ ?_
      refine goc hn ?_
      refine bselM h (fun hb8 h => ?_) (fun hb8 h => ?_)
      · refine COk.seqQ fun Q51 qn51 qx51 qr51 => ?_
        refine gor hn ?_
        refine qn51 _ _ ?_
        refine got hn ?_
        refine qr48 _ _ ?_
        obtain rfl := Option.some.inj h
        exact ⟨[], _, rfl, (by repeat (first | exact trivial | exact rfl | (refine And.intro ?_ ?_))), trivial, rfl, rfl, rfl, rfl, rfl⟩
      · refine gok hn ?_
        refine qn48 _ _ ?_
        refine COk.seqQ fun Q52 qn52 qx52 qr52 => ?_
        refine COk.seqQ fun Q53 qn53 qx53 qr53 => ?_
        refine gor hn ?_
        refine qn53 _ _ ?_
        refine goc hn ?_
        refine bselM h (fun hb9 h => ?_) (fun hb9 h => ?_)
        · refine COk.seqQ fun Q55 qn55 qx55 qr55 => ?_
          refine COk.sub (ts2 := []) (os2 := []) [] ⟨trivial, trivial, rfl, rfl⟩ (by rw [hn]; rfl) ?_
          refine gor hn ?_
          refine qn55 _ _ ?_
          refine got hn ?_
          refine qr52 _ _ ?_
          obtain rfl := Option.some.inj h
          exact ⟨[], _, rfl, (by repeat (first | exact trivial | exact rfl | (refine And.intro ?_ ?_))), trivial, rfl, rfl, rfl, rfl, rfl⟩
        · refine gok hn ?_
          refine qn52 _ _ ?_
          refine COk.seqQ fun Q56 qn56 qx56 qr56 => ?_
          refine COk.sub (ts2 := []) (os2 := []) [] ⟨trivial, trivial, rfl, rfl⟩ (by rw [hn]; rfl) ?_
          refine gor hn ?_
          refine qn56 _ _ ?_
          refine got hn ?_
          obtain rfl := Option.some.inj h
          exact ⟨[], _, rfl, (by repeat (first | exact trivial | exact rfl | (refine And.intro ?_ ?_))), trivial, rfl, rfl, rfl, rfl, rfl⟩

/- class.order -/
set_option maxRecDepth 100000 in
set_option maxHeartbeats 1000000 in
theorem class_order_ok (N : Nat) (a0 : Me) (a1 : ByteArray) (r : Int) (h : class_order N a0 a1 = some r) : Spec Try.prog 67 [] [.agg (eMe a0), .str a1] (.int r) [] [] := by
  refine Spec.of tabOk Try.func67 rfl Try.ntmps67 (by kernel_rfl) rfl rfl rfl fun Γ hn => ?_
  unfold class_order at h
  refine COk.seqQ fun Q3 qn3 qx3 qr3 => ?_
  refine gor hn ?_
  refine qn3 _ _ ?_
  refine COk.seqQ fun Q4 qn4 qx4 qr4 => ?_
  refine gor hn ?_
  obtain ⟨r1, hr2, h⟩ := bindM h
  show CallOk Try.prog _ _ _ _
  refine CallOk.as (cmp_Compare_string_ok N a0.name a1 r1 hr2) (by repeat (first | exact trivial | exact rfl | (refine And.intro ?_ ?_))) trivial rfl ?_
  refine qn4 _ _ ?_
  refine got hn ?_
  obtain rfl := Option.some.inj h
  exact ⟨[], _, rfl, (by repeat (first | exact trivial | exact rfl | (refine And.intro ?_ ?_))), trivial, rfl, rfl, rfl, rfl, rfl⟩

/- class.Find -/
set_option maxRecDepth 100000 in
set_option maxHeartbeats 1000000 in
theorem class_Find_ok (N : Nat) (a0 : Wd) (a1 : Int) (a2 : ByteArray) (r : (Int × Int)) (h : class_Find N a0 a1 a2 = some r) : Spec Try.prog 39 [] [.agg (eWd a0), .int a1, .str a2] (.tup [.int r.1, .int r.2]) [] [] := by
  refine Spec.of tabOk Try.func39 rfl Try.ntmps39 (by kernel_rfl) rfl rfl rfl fun Γ hn => ?_
  unfold class_Find at h
  refine COk.seqQ fun Q72 qn72 qx72 qr72 => ?_
  refine gor hn ?_
  refine qn72 _ _ ?_
  refine COk.seqQ fun Q73 qn73 qx73 qr73 => ?_
  refine COk.seqQ fun Q74 qn74 qx74 qr74 => ?_
  refine gor hn ?_
  refine qn74 _ _ ?_
  obtain ⟨o6, h7, h⟩ := bindM h
  refine COk.joinR (ι := { s : Unit // o6 = Ctl.next s }) (fun s => []) (fun s => []) (fun Q123 qn123 qx123 qr123 => ?_) (by intro s; rw [hn]; rfl) ?_
  · refine COk.blkQ fun Q124 qn124 qe124 qx124 qr124 => ?_
    refine COk.loopQ (ι := { q : (Nat × Int × Int) // class_Find_l1 N a0 a2 q.1 q.2.1 q.2.2 = some o6 }) (fun q => [(1, .int q.1.2.1), (2, .str a2), (3, .ptr 3 0), (8, .int q.1.2.2)]) (fun q => [(3, .box (eWd a0) 26)]) (fun q => q.1.1) ⟨(N, a1, (0 : Int)), h7⟩ [] ⟨⟨rfl, rfl, rfl, rfl, trivial⟩, ⟨rfl, trivial⟩, rfl, rfl⟩ (by intro q; rw [hn]; rfl) ?_
    rintro ⟨⟨n_, v2, v3⟩, h7⟩ Q125 qn125 qx125 qr125
    rcases n_ with _ | n10
    · rw [class_Find_l1.eq_1] at h7
      cases h7
    · replace h7 := (class_Find_l1.eq_2 _ _ _ _ _ _).symm.trans h7
      refine COk.seqQ fun Q126 qn126 qx126 qr126 => ?_
      refine COk.seqQ fun Q127 qn127 qx127 qr127 => ?_
      obtain ⟨o13, h12, h7⟩ := bindM h7
      refine COk.joinR (ι := { s : Bool // o13 = s }) (fun s => [(1, .int v2), (2, .str a2), (3, .ptr 3 0), (8, .int v3), (26, .bool s.1)]) (fun s => [(3, .box (eWd a0) 26)]) (fun Q128 qn128 qx128 qr128 => ?_) (by intro s; rw [hn]; rfl) ?_
      · refine gor hn ?_
        refine bselM h12 (fun hb14 h12 => ?_) (fun hb14 h12 => ?_)
        · refine bselT hb14 ?_
          refine bselT hb14 ?_
          refine bselT hb14 ?_
          refine lenM (fun hl15 => ?_)
          refine bselT hb14 ?_
          refine bselT hb14 ?_
          refine bselM h12 (fun hb16 h12 => ?_) (fun hb16 h12 => ?_)
          · refine bselT hb16 ?_
            refine bselT hb16 ?_
            refine bselT hb16 ?_
            refine lenM (fun hl17 => ?_)
            refine bselT hb16 ?_
            refine bselT hb16 ?_
            refine qn128 _ _ ?_
            obtain rfl := Option.some.inj h12
            refine EOk.done ?_
            exact ⟨⟨_, rfl⟩, [], trivial, ⟨⟨rfl, rfl, rfl, rfl, rfl, trivial⟩, ⟨rfl, trivial⟩, rfl, rfl⟩⟩
          · refine bselF hb16 ?_
            refine bselF hb16 ?_
            refine bselF hb16 ?_
            refine bselF hb16 ?_
            refine bselF hb16 ?_
            refine qn128 _ _ ?_
            obtain rfl := Option.some.inj h12
            refine EOk.done ?_
            exact ⟨⟨_, rfl⟩, [], trivial, ⟨⟨rfl, rfl, rfl, rfl, rfl, trivial⟩, ⟨rfl, trivial⟩, rfl, rfl⟩⟩
        · refine bselF hb14 ?_
          refine bselF hb14 ?_
          refine bselF hb14 ?_
          refine bselF hb14 ?_
          refine bselF hb14 ?_
          refine qn128 _ _ ?_
          obtain rfl := Option.some.inj h12
          refine EOk.done ?_
          exact ⟨⟨_, rfl⟩, [], trivial, ⟨⟨rfl, rfl, rfl, rfl, rfl, trivial⟩, ⟨rfl, trivial⟩, rfl, rfl⟩⟩
      rintro ⟨v11, hv_⟩
      replace hv_ := hv_.symm
      subst hv_
      refine qn127 _ _ ?_
      refine goc hn ?_
      refine bselM h7 (fun hb18 h7 => ?_) (fun hb18 h7 => ?_)
      · refine gok hn ?_
        refine qn126 _ _ ?_
        refine COk.seqQ fun Q129 qn129 qx129 qr129 => ?_
        refine COk.blkQ fun Q136 qn136 qe136 qx136 qr136 => ?_
        refine COk.seqQ fun Q137 qn137 qx137 qr137 => ?_
        refine COk.seqQ fun Q138 qn138 qx138 qr138 => ?_
        refine gor hn ?_
        obtain ⟨x19, hx20, h7⟩ := bindM h7
        refine idxM hx20 ?_
        obtain ⟨r21, hr22, h7⟩ := bindM h7
        show CallOk Try.prog _ _ _ _
        refine CallOk.as (slices_BinarySearchFunc_api_Method_api_Method_string_ok N x19.methods a2 (fun x0_ x1_ => class_order N x0_ x1_) (fun x0_ x1_ y_ hy_ => class_order_ok N x0_ x1_ y_ hy_) r21 hr22) (by repeat (first | exact trivial | exact rfl | (refine And.intro ?_ ?_))) trivial rfl ?_
        refine qn138 _ _ ?_
        refine COk.seqQ fun Q139 qn139 qx139 qr139 => ?_
        refine COk.sub (ts2 := [(1, .int v2), (2, .str a2), (3, .ptr 3 0), (8, .int v3), (9, .int r21.1), (10, .bool r21.2)]) (os2 := [(3, .box (eWd a0) 26)]) [] ⟨⟨rfl, rfl, rfl, rfl, rfl, rfl, trivial⟩, ⟨rfl, trivial⟩, rfl, rfl⟩ (by rw [hn]; rfl) ?_
        refine gor hn ?_
        refine qn139 _ _ ?_
        refine goc hn ?_
        refine bselM h7 (fun hb23 h7 => ?_) (fun hb23 h7 => ?_)
        · refine COk.seqQ fun Q141 qn141 qx141 qr141 => ?_
          refine gor hn ?_
          refine qn141 _ _ ?_
          refine got hn ?_
          refine qr137 _ _ ?_
          refine qr136 _ _ ?_
          refine qr129 _ _ ?_
          refine qr125 _ _ ?_
          refine qr124 _ _ ?_
          refine qr123 _ _ ?_
          refine qr73 _ _ ?_
          obtain rfl := Option.some.inj h7
          obtain rfl := Option.some.inj h
          exact ⟨[], _, rfl, (by repeat (first | exact trivial | exact rfl | (refine And.intro ?_ ?_))), trivial, rfl, rfl, rfl, rfl, rfl⟩
        · refine gok hn ?_
          refine qn137 _ _ ?_
          refine gor hn ?_
          obtain ⟨x24, hx25, h7⟩ := bindM h7
          refine idxM hx25 ?_
          refine qn136 _ _ ?_
          refine qn129 _ _ ?_
          refine gor hn ?_
          refine Or.inr ?_
          refine qn125 _ _ ?_
          refine EOk.done ?_
          exact ⟨⟨(n10, x24.super, (wr (v3 + (1 : Int)))), h7⟩, [], by show n10 < n10 + 1; omega, ⟨⟨rfl, rfl, rfl, rfl, trivial⟩, ⟨rfl, trivial⟩, rfl, rfl⟩⟩
      · refine goe hn ?_
        refine qx126 _ _ _ ?_
        refine qx125 _ _ _ ?_
        refine qe124 _ _ ?_
        refine qn123 _ _ ?_
        obtain rfl := Option.some.inj h7
        refine EOk.done ?_
        exact ⟨⟨_, rfl⟩, [], trivial, ⟨trivial, trivial, rfl, rfl⟩⟩
  rintro ⟨⟨⟩, rfl⟩
  refine qn73 _ _ ?_
  refine COk.seqQ fun Q142 qn142 qx142 qr142 => ?_
  refine gor hn ?_
  refine qn142 _ _ ?_
  refine got hn ?_
  obtain rfl := Option.some.inj h
  exact ⟨[], _, rfl, (by repeat (first | exact trivial | exact rfl | (refine And.intro ?_ ?_))), trivial, rfl, rfl, rfl, rfl, rfl⟩

/- cells.Find -/
set_option maxRecDepth 100000 in
set_option maxHeartbeats 1000000 in
theorem cells_Find_ok (N : Nat) (a0 : (List Ce)) (a1 : Wd) (a2 : St) (a3 : Int) (a4 : ByteArray) (r : ((List Ce) × Int × Int × Bool)) (h : cells_Find N a0 a1 a2 a3 a4 = some r) : Spec Try.prog 20 [] [.sl 6 (List.map eCe a0), .agg (eWd a1), .agg (eSt a2), .int a3, .str a4] (.tup [.own 0, .int r.2.1, .int r.2.2.1, .bool r.2.2.2]) [(0, .row 6 (List.map eCe r.1) 49)] [0] := by
  refine Spec.of tabOk Try.func20 rfl Try.ntmps20 (by kernel_rfl) rfl rfl rfl fun Γ hn => ?_
  unfold cells_Find at h
  refine COk.seqQ fun Q16 qn16 qx16 qr16 => ?_
  refine gor hn ?_
  refine qn16 _ _ ?_
  refine COk.seqQ fun Q17 qn17 qx17 qr17 => ?_
  refine COk.seqQ fun Q18 qn18 qx18 qr18 => ?_
  refine gor hn ?_
  obtain ⟨r1, hr2, h⟩ := bindM h
  show CallOk Try.prog _ _ _ _
  refine CallOk.as (cells_Get_ok N a0 a2 a1.epoch a3 r1 hr2) (by repeat (first | exact trivial | exact rfl | (refine And.intro ?_ ?_))) trivial rfl ?_
  refine qn18 _ _ ?_
  refine COk.seqQ fun Q19 qn19 qx19 qr19 => ?_
  obtain ⟨o5, h4, h⟩ := bindM h
  refine COk.joinR (ι := { s : Bool // o5 = s }) (fun s => [(0, .sl 6 (List.map eCe a0)), (3, .int a3), (4, .str a4), (6, .ptr 6 0), (7, .ptr 7 0), (14, .int r1), (33, .bool s.1)]) (fun s => [(6, .box (eWd a1) 26), (7, .box (eSt a2) 28)]) (fun Q20 qn20 qx20 qr20 => ?_) (by intro s; rw [hn]; rfl) ?_
  · refine COk.sub (ts2 := [(0, .sl 6 (List.map eCe a0)), (3, .int a3), (4, .str a4), (6, .ptr 6 0), (7, .ptr 7 0), (14, .int r1)]) (os2 := [(6, .box (eWd a1) 26), (7, .box (eSt a2) 28)]) [] ⟨⟨(by repeat (first | exact trivial | exact rfl | (refine And.intro ?_ ?_))), rfl, rfl, rfl, rfl, rfl, trivial⟩, ⟨rfl, rfl, trivial⟩, rfl, rfl⟩ (by rw [hn]; rfl) ?_
    refine gor hn ?_
    refine bselM h4 (fun hb6 h4 => ?_) (fun hb6 h4 => ?_)
    · refine bselT hb6 ?_
      refine bselT hb6 ?_
      refine bselT hb6 ?_
      refine lenM (fun hl7 => ?_)
      refine bselT hb6 ?_
      refine bselT hb6 ?_
      refine qn20 _ _ ?_
      obtain rfl := Option.some.inj h4
      refine EOk.done ?_
      exact ⟨⟨_, rfl⟩, [], trivial, ⟨⟨(by repeat (first | exact trivial | exact rfl | (refine And.intro ?_ ?_))), rfl, rfl, rfl, rfl, rfl, rfl, trivial⟩, ⟨rfl, rfl, trivial⟩, rfl, rfl⟩⟩
    · refine bselF hb6 ?_
      refine bselF hb6 ?_
      refine bselF hb6 ?_
      refine bselF hb6 ?_
      refine bselF hb6 ?_
      refine qn20 _ _ ?_
      obtain rfl := Option.some.inj h4
      refine EOk.done ?_
      exact ⟨⟨_, rfl⟩, [], trivial, ⟨⟨(by repeat (first | exact trivial | exact rfl | (refine And.intro ?_ ?_))), rfl, rfl, rfl, rfl, rfl, rfl, trivial⟩, ⟨rfl, rfl, trivial⟩, rfl, rfl⟩⟩
  rintro ⟨v3, hv_⟩
  replace hv_ := hv_.symm
  subst hv_
  refine qn19 _ _ ?_
  refine goc hn ?_
  refine bselM h (fun hb8 h => ?_) (fun hb8 h => ?_)
  · refine COk.seqQ fun Q23 qn23 qx23 qr23 => ?_
    refine gor hn ?_
    obtain ⟨r9, hr10, h⟩ := bindM h
    show CallOk Try.prog _ _ _ _
    refine CallOk.as (class_Find_ok N a1 r1 a4 r9 hr10) (by repeat (first | exact trivial | exact rfl | (refine And.intro ?_ ?_))) trivial rfl ?_
    refine qn23 _ _ ?_
    refine COk.seqQ fun Q24 qn24 qx24 qr24 => ?_
    refine gor hn ?_
    obtain ⟨r11, hr12, h⟩ := bindM h
    show CallOk Try.prog _ _ _ _
    refine CallOk.as ((cells_Own_ok N a0 r11 hr12).sw 0 42) (by repeat (first | exact trivial | exact rfl | (refine And.intro ?_ ?_))) trivial rfl ?_
    refine qn24 _ _ ?_
    refine got hn ?_
    refine qr17 _ _ ?_
    obtain rfl := Option.some.inj h
    exact ⟨[(0, 42)], _, rfl, (by repeat (first | exact trivial | exact rfl | (refine And.intro ?_ ?_))), ⟨rfl, trivial⟩, rfl, rfl, rfl, rfl, rfl⟩
  · refine gok hn ?_
    refine qn17 _ _ ?_
    refine COk.seqQ fun Q25 qn25 qx25 qr25 => ?_
    refine gor hn ?_
    obtain ⟨r13, hr14, h⟩ := bindM h
    show CallOk Try.prog _ _ _ _
    refine CallOk.as (class_Find_ok N a1 a3 a4 r13 hr14) (by repeat (first | exact trivial | exact rfl | (refine And.intro ?_ ?_))) trivial rfl ?_
    refine qn25 _ _ ?_
    refine COk.seqQ fun Q26 qn26 qx26 qr26 => ?_
    refine COk.seqQ fun Q27 qn27 qx27 qr27 => ?_
    refine gor hn ?_
    refine qn27 _ _ ?_
    refine goc hn ?_
    refine bselM h (fun hb15 h => ?_) (fun hb15 h => ?_)
    · refine COk.seqQ fun Q29 qn29 qx29 qr29 => ?_
      refine COk.sub (ts2 := [(0, .sl 6 (List.map eCe a0)), (17, .int r13.1), (18, .int r13.2)]) (os2 := []) [] ⟨⟨(by repeat (first | exact trivial | exact rfl | (refine And.intro ?_ ?_))), rfl, rfl, trivial⟩, trivial, rfl, rfl⟩ (by rw [hn]; rfl) ?_
      refine gor hn ?_
      obtain ⟨r16, hr17, h⟩ := bindM h
      show CallOk Try.prog _ _ _ _
      refine CallOk.as ((cells_Own_ok N a0 r16 hr17).sw 0 55) (by repeat (first | exact trivial | exact rfl | (refine And.intro ?_ ?_))) trivial rfl ?_
      refine qn29 _ _ ?_
      refine got hn ?_
      refine qr26 _ _ ?_
      obtain rfl := Option.some.inj h
      exact ⟨[(0, 55)], _, rfl, (by repeat (first | exact trivial | exact rfl | (refine And.intro ?_ ?_))), ⟨rfl, trivial⟩, rfl, rfl, rfl, rfl, rfl⟩
    · refine gok hn ?_
      refine qn26 _ _ ?_
      refine COk.seqQ fun Q30 qn30 qx30 qr30 => ?_
      refine COk.sub (ts2 := [(0, .sl 6 (List.map eCe a0)), (3, .int a3), (6, .ptr 6 0), (7, .ptr 7 0), (17, .int r13.1), (18, .int r13.2)]) (os2 := [(6, .box (eWd a1) 26), (7, .box (eSt a2) 28)]) [] ⟨⟨(by repeat (first | exact trivial | exact rfl | (refine And.intro ?_ ?_))), rfl, rfl, rfl, rfl, rfl, trivial⟩, ⟨rfl, rfl, trivial⟩, rfl, rfl⟩ (by rw [hn]; rfl) ?_
      refine gor hn ?_
      obtain ⟨r18, hr19, h⟩ := bindM h
      show CallOk Try.prog _ _ _ _
      refine CallOk.as ((cells_Put_ok N a0 a2 a1.epoch a3 r13.1 r18 hr19).sw 0 64) (by repeat (first | exact trivial | exact rfl | (refine And.intro ?_ ?_))) trivial rfl ?_
      refine qn30 _ _ ?_
      refine got hn ?_
      obtain rfl := Option.some.inj h
      exact ⟨[(0, 64)], _, rfl, (by repeat (first | exact trivial | exact rfl | (refine And.intro ?_ ?_))), ⟨rfl, trivial⟩, rfl, rfl, rfl, rfl, rfl⟩

/- qclaw6.alive -/
set_option maxRecDepth 100000 in
set_option maxHeartbeats 1000000 in
theorem qclaw6_alive_ok (N : Nat) (r : Bool) (h : qclaw6_alive N  = some r) : Spec Try.prog 22 [] [] (.bool r) [] [] := by
  refine Spec.of tabOk Try.func22 rfl Try.ntmps22 (by kernel_rfl) rfl rfl rfl fun Γ hn => ?_
  unfold qclaw6_alive at h
  refine COk.seqQ fun Q7 qn7 qx7 qr7 => ?_
  refine gor hn ?_
  refine qn7 _ _ ?_
  refine COk.seqQ fun Q8 qn8 qx8 qr8 => ?_
  refine gor hn ?_
  refine qn8 _ _ ?_
  refine COk.seqQ fun Q9 qn9 qx9 qr9 => ?_
  refine gor hn ?_
  obtain ⟨r1, hr2, h⟩ := bindM h
  show CallOk Try.prog _ _ _ _
  refine CallOk.as ((cells_Put_ok N [] (⟨(4 : Int), (⟨#[109]⟩ : ByteArray), (2 : Int)⟩ : St) (3 : Int) (5 : Int) (4 : Int) r1 hr2).sw 0 9) (by repeat (first | exact trivial | exact rfl | (refine And.intro ?_ ?_))) trivial rfl ?_
  refine qn9 _ _ ?_
  refine COk.seqQ fun Q10 qn10 qx10 qr10 => ?_
  refine god hn (by kernel_rfl) ?_
  obtain ⟨r3, hr4, h⟩ := bindM h
  show CallOk Try.prog _ _ _ _
  refine CallOk.as (qcref1_New_ok N  r3 hr4) (by repeat (first | exact trivial | exact rfl | (refine And.intro ?_ ?_))) trivial rfl ?_
  obtain ⟨r5, hr6, h⟩ := bindM h
  show CallOk Try.prog _ _ _ _
  refine CallOk.as ((cells_Find_ok N [] r3 (⟨(4 : Int), (⟨#[109]⟩ : ByteArray), (2 : Int)⟩ : St) (3 : Int) (⟨#[43]⟩ : ByteArray) r5 hr6).sw 0 13) (by repeat (first | exact trivial | exact rfl | (refine And.intro ?_ ?_))) trivial rfl ?_
  refine qn10 _ _ ?_
  refine COk.seqQ fun Q11 qn11 qx11 qr11 => ?_
  obtain ⟨o9, h8, h⟩ := bindM h
  refine COk.joinR (ι := { s : Bool // o9 = s }) (fun s => [(0, .bool s.1)]) (fun s => []) (fun Q12 qn12 qx12 qr12 => ?_) (by intro s; rw [hn]; rfl) ?_
  · refine COk.fzAll 9 rfl ?_
    refine COk.sub (ts2 := [(1, .ptr 1 0), (2, .sl 6 (List.map eCe r1)), (3, .own 13), (4, .int r5.2.1), (5, .int r5.2.2.1), (6, .bool r5.2.2.2)]) (os2 := [(1, .box [.int (4 : Int), .str (⟨#[109]⟩ : ByteArray), .int (2 : Int)] 28), (13, .row 6 (List.map eCe r5.1) 49)]) [] ⟨⟨rfl, (by repeat (first | exact trivial | exact rfl | (refine And.intro ?_ ?_))), rfl, rfl, rfl, rfl, trivial⟩, ⟨rfl, rfl, trivial⟩, rfl, rfl⟩ (by rw [hn]; rfl) ?_
    refine gor hn ?_
    refine lenM (fun hl10 => ?_)
    refine bselM h8 (fun hb11 h8 => ?_) (fun hb11 h8 => ?_)
    · refine bselT hb11 ?_
      refine bselT hb11 ?_
      obtain ⟨r12, hr13, h8⟩ := bindM h8
      show CallOk Try.prog _ _ _ _
      refine CallOk.as (cells_Get_ok N r1 (⟨(4 : Int), (⟨#[109]⟩ : ByteArray), (2 : Int)⟩ : St) (3 : Int) (5 : Int) r12 hr13) (by repeat (first | exact trivial | exact rfl | (refine And.intro ?_ ?_))) trivial rfl ?_
      refine bselT hb11 ?_
      refine bselT hb11 ?_
      refine bselM h8 (fun hb14 h8 => ?_) (fun hb14 h8 => ?_)
      · refine bselT hb14 ?_
        refine bselT hb14 ?_
        obtain ⟨r15, hr16, h8⟩ := bindM h8
        show CallOk Try.prog _ _ _ _
        refine CallOk.as (cells_Get_ok N r1 (⟨(4 : Int), (⟨#[109]⟩ : ByteArray), (2 : Int)⟩ : St) (2 : Int) (5 : Int) r15 hr16) (by repeat (first | exact trivial | exact rfl | (refine And.intro ?_ ?_))) trivial rfl ?_
        refine bselT hb14 ?_
        refine bselT hb14 ?_
        refine bselM h8 (fun hb17 h8 => ?_) (fun hb17 h8 => ?_)
        · refine bselT hb17 ?_
          obtain ⟨r18, hr19, h8⟩ := bindM h8
          show CallOk Try.prog _ _ _ _
          refine CallOk.as ((cells_Own_ok N r1 r18 hr19).sw 0 35) (by repeat (first | exact trivial | exact rfl | (refine And.intro ?_ ?_))) trivial rfl ?_
          refine bselT hb17 ?_
          refine lenM (fun hl20 => ?_)
          refine bselT hb17 ?_
          refine bselT hb17 ?_
          refine bselM h8 (fun hb21 h8 => ?_) (fun hb21 h8 => ?_)
          · refine bselT hb21 ?_
            refine lenM (fun hl22 => ?_)
            refine bselT hb21 ?_
            refine bselT hb21 ?_
            refine bselM h8 (fun hb23 h8 => ?_) (fun hb23 h8 => ?_)
            · refine bselT hb23 ?_
              refine bselT hb23 ?_
              refine bselM h8 (fun hb24 h8 => ?_) (fun hb24 h8 => ?_)
              · refine bselT hb24 ?_
                refine bselT hb24 ?_
                refine bselM h8 (fun hb25 h8 => ?_) (fun hb25 h8 => ?_)
                · refine bselT hb25 ?_
                  refine bselT hb25 ?_
                  refine qn12 _ _ ?_
                  obtain rfl := Option.some.inj h8
                  refine EOk.done ?_
                  exact ⟨⟨_, rfl⟩, [], trivial, ⟨⟨rfl, trivial⟩, trivial, rfl, rfl⟩⟩
                · refine bselF hb25 ?_
                  refine bselF hb25 ?_
                  refine qn12 _ _ ?_
                  obtain rfl := Option.some.inj h8
                  refine EOk.done ?_
                  exact ⟨⟨_, rfl⟩, [], trivial, ⟨⟨rfl, trivial⟩, trivial, rfl, rfl⟩⟩
              · refine bselF hb24 ?_
                refine bselF hb24 ?_
                refine qn12 _ _ ?_
                obtain rfl := Option.some.inj h8
                refine EOk.done ?_
                exact ⟨⟨_, rfl⟩, [], trivial, ⟨⟨rfl, trivial⟩, trivial, rfl, rfl⟩⟩
            · refine bselF hb23 ?_
              refine bselF hb23 ?_
              refine qn12 _ _ ?_
              obtain rfl := Option.some.inj h8
              refine EOk.done ?_
              exact ⟨⟨_, rfl⟩, [], trivial, ⟨⟨rfl, trivial⟩, trivial, rfl, rfl⟩⟩
          · refine bselF hb21 ?_
            refine bselF hb21 ?_
            refine bselF hb21 ?_
            refine qn12 _ _ ?_
            obtain rfl := Option.some.inj h8
            refine EOk.done ?_
            exact ⟨⟨_, rfl⟩, [], trivial, ⟨⟨rfl, trivial⟩, trivial, rfl, rfl⟩⟩
        · refine bselF hb17 ?_
          refine bselF hb17 ?_
          refine bselF hb17 ?_
          refine bselF hb17 ?_
          refine qn12 _ _ ?_
          obtain rfl := Option.some.inj h8
          refine EOk.done ?_
          exact ⟨⟨_, rfl⟩, [], trivial, ⟨⟨rfl, trivial⟩, trivial, rfl, rfl⟩⟩
      · refine bselF hb14 ?_
        refine bselF hb14 ?_
        refine bselF hb14 ?_
        refine bselF hb14 ?_
        refine qn12 _ _ ?_
        obtain rfl := Option.some.inj h8
        refine EOk.done ?_
        exact ⟨⟨_, rfl⟩, [], trivial, ⟨⟨rfl, trivial⟩, trivial, rfl, rfl⟩⟩
    · refine bselF hb11 ?_
      refine bselF hb11 ?_
      refine bselF hb11 ?_
      refine bselF hb11 ?_
      refine qn12 _ _ ?_
      obtain rfl := Option.some.inj h8
      refine EOk.done ?_
      exact ⟨⟨_, rfl⟩, [], trivial, ⟨⟨rfl, trivial⟩, trivial, rfl, rfl⟩⟩
  rintro ⟨v7, hv_⟩
  replace hv_ := hv_.symm
  subst hv_
  refine qn11 _ _ ?_
  refine got hn ?_
  obtain rfl := Option.some.inj h
  exact ⟨[], _, rfl, (by repeat (first | exact trivial | exact rfl | (refine And.intro ?_ ?_))), trivial, rfl, rfl, rfl, rfl, rfl⟩

/- qclaw6.CellsOld -/
set_option maxRecDepth 100000 in
set_option maxHeartbeats 1000000 in
theorem qclaw6_CellsOld_ok (N : Nat) (a0 : St) (a1 : Int) (a2 : (List Int)) (a3 : Int) (r : Bool) (h : qclaw6_CellsOld N a0 a1 a2 a3 = some r) : Spec Try.prog 5 [] [.agg (eSt a0), .int a1, .sl 1 (List.map eInt a2), .int a3] (.bool r) [] [] := by
  refine Spec.of tabOk Try.func5 rfl Try.ntmps5 (by kernel_rfl) rfl rfl rfl fun Γ hn => ?_
  unfold qclaw6_CellsOld at h
  refine COk.seqQ fun Q181 qn181 qx181 qr181 => ?_
  refine gor hn ?_
  refine qn181 _ _ ?_
  refine COk.seqQ fun Q182 qn182 qx182 qr182 => ?_
  refine COk.seqQ fun Q183 qn183 qx183 qr183 => ?_
  refine gor hn ?_
  obtain ⟨r1, hr2, h⟩ := bindM h
  show CallOk Try.prog _ _ _ _
  refine CallOk.as (qclaw6_alive_ok N  r1 hr2) (by repeat (first | exact trivial | exact rfl | (refine And.intro ?_ ?_))) trivial rfl ?_
  refine qn183 _ _ ?_
  refine goc hn ?_
  refine bselM h (fun hb3 h => ?_) (fun hb3 h => ?_)
  · refine COk.seqQ fun Q185 qn185 qx185 qr185 => ?_
    refine gor hn ?_
    refine qn185 _ _ ?_
    refine got hn ?_
    refine qr182 _ _ ?_
    obtain rfl := Option.some.inj h
    exact ⟨[], _, rfl, (by repeat (first | exact trivial | exact rfl | (refine And.intro ?_ ?_))), trivial, rfl, rfl, rfl, rfl, rfl⟩
  · refine gok hn ?_
    refine qn182 _ _ ?_
    refine COk.seqQ fun Q186 qn186 qx186 qr186 => ?_
    refine COk.seqQ fun Q187 qn187 qx187 qr187 => ?_
    refine gor hn ?_
    refine qn187 _ _ ?_
    refine goc hn ?_
    refine bselM h (fun hb4 h => ?_) (fun hb4 h => ?_)
    · refine COk.seqQ fun Q189 qn189 qx189 qr189 => ?_
      refine gor hn ?_
      refine qn189 _ _ ?_
      refine got hn ?_
      refine qr186 _ _ ?_
      obtain rfl := Option.some.inj h
      exact ⟨[], _, rfl, (by repeat (first | exact trivial | exact rfl | (refine And.intro ?_ ?_))), trivial, rfl, rfl, rfl, rfl, rfl⟩
    · refine gok hn ?_
      refine qn186 _ _ ?_
      refine COk.seqQ fun Q190 qn190 qx190 qr190 => ?_
      refine gor hn ?_
      refine qn190 _ _ ?_
      refine COk.seqQ fun Q191 qn191 qx191 qr191 => ?_
      refine COk.seqQ fun Q192 qn192 qx192 qr192 => ?_
      refine gor hn ?_
      refine lenM (fun hl5 => ?_)
      refine qn192 _ _ ?_
      refine COk.nilrow 9 209 6 49 rfl rfl rfl ?_
      obtain ⟨o10, h11, h⟩ := bindM h
      refine COk.joinR (ι := { s : (List Ce) // o10 = s }) (fun s => [(1, .int a1), (2, .sl 1 (List.map eInt a2)), (3, .int a3), (4, .ptr 4 0), (9, .own 209)]) (fun s => [(4, .box (eSt a0) 28), (209, .row 6 (List.map eCe s.1) 49)]) (fun Q221 qn221 qx221 qr221 => ?_) (by intro s; rw [hn]; rfl) ?_
      · refine COk.blkQ fun Q222 qn222 qe222 qx222 qr222 => ?_
        refine COk.loopQ (ι := { q : ((List Int) × Nat × (List Ce)) // q.1 = a2.drop q.2.1 ∧ qclaw6_CellsOld_l1 N a0 a1 q.1 q.2.1 q.2.2 = some o10 }) (fun q => [(1, .int a1), (2, .sl 1 (List.map eInt a2)), (3, .int a3), (4, .ptr 4 0), (9, .own 209), (22, .sl 1 (List.map eInt a2)), (23, .int (a2.length : Int)), (24, .int (q.1.2.1 : Int))]) (fun q => [(4, .box (eSt a0) 28), (209, .row 6 (List.map eCe q.1.2.2) 49)]) (fun q => q.1.1.length) ⟨(a2, 0, ([] : List Ce)), rfl, h11⟩ [] ⟨⟨rfl, (by repeat (first | exact trivial | exact rfl | (refine And.intro ?_ ?_))), rfl, rfl, rfl, (by repeat (first | exact trivial | exact rfl | (refine And.intro ?_ ?_))), rfl, rfl, trivial⟩, ⟨rfl, rfl, trivial⟩, rfl, rfl⟩ (by intro q; rw [hn]; rfl) ?_
        rintro ⟨⟨rest_, k6, v7⟩, hd13, h11⟩ Q223 qn223 qx223 qr223
        replace hd13 : rest_ = a2.drop k6 := hd13
        rcases rest_ with _ | ⟨x15, rest12⟩
        · have hlt17 := restNil hd13
          replace h11 := (qclaw6_CellsOld_l1.eq_1 _ _ _ _ _).symm.trans h11
          refine COk.seqQ fun Q224 qn224 qx224 qr224 => ?_
          refine gor hn ?_
          refine qn224 _ _ ?_
          refine COk.seqQ fun Q225 qn225 qx225 qr225 => ?_
          refine goc hn ?_
          refine bselF hlt17 ?_
          refine goe hn ?_
          refine qx225 _ _ _ ?_
          refine qx223 _ _ _ ?_
          refine qe222 _ _ ?_
          refine qn221 _ _ ?_
          obtain rfl := Option.some.inj h11
          refine EOk.done ?_
          exact ⟨⟨_, rfl⟩, [], trivial, ⟨⟨rfl, (by repeat (first | exact trivial | exact rfl | (refine And.intro ?_ ?_))), rfl, rfl, rfl, trivial⟩, ⟨rfl, rfl, trivial⟩, rfl, rfl⟩⟩
        · obtain ⟨hx16, hd2, hlt17⟩ := restCons hd13
          replace h11 := (qclaw6_CellsOld_l1.eq_2 _ _ _ _ _ _ _).symm.trans h11
          refine COk.seqQ fun Q226 qn226 qx226 qr226 => ?_
          refine gor hn ?_
          refine qn226 _ _ ?_
          refine COk.seqQ fun Q227 qn227 qx227 qr227 => ?_
          refine goc hn ?_
          refine bselT hlt17 ?_
          refine gok hn ?_
          refine qn227 _ _ ?_
          refine COk.seqQ fun Q228 qn228 qx228 qr228 => ?_
          refine COk.blkQ fun Q231 qn231 qe231 qx231 qr231 => ?_
          refine COk.seqQ fun Q232 qn232 qx232 qr232 => ?_
          refine gor hn ?_
          refine idxK hx16 ?_
          refine qn232 _ _ ?_
          refine COk.fzAll 209 rfl ?_
          refine COk.sub (ts2 := [(1, .int a1), (2, .sl 1 (List.map eInt a2)), (3, .int a3), (4, .ptr 4 0), (9, .sl 6 (List.map eCe v7)), (11, .int x15), (22, .sl 1 (List.map eInt a2)), (23, .int (a2.length : Int)), (24, .int (k6 : Int))]) (os2 := [(4, .box (eSt a0) 28)]) [] ⟨⟨rfl, (by repeat (first | exact trivial | exact rfl | (refine And.intro ?_ ?_))), rfl, rfl, (by repeat (first | exact trivial | exact rfl | (refine And.intro ?_ ?_))), rfl, (by repeat (first | exact trivial | exact rfl | (refine And.intro ?_ ?_))), rfl, rfl, trivial⟩, ⟨rfl, trivial⟩, rfl, rfl⟩ (by rw [hn]; rfl) ?_
          refine gor hn ?_
          obtain ⟨r18, hr19, h11⟩ := bindM h11
          show CallOk Try.prog _ _ _ _
          refine CallOk.as ((cells_Put_ok N v7 a0 a1 x15 (1 : Int) r18 hr19).sw 0 32) (by repeat (first | exact trivial | exact rfl | (refine And.intro ?_ ?_))) trivial rfl ?_
          refine qn231 _ _ ?_
          refine qn228 _ _ ?_
          refine gor hn ?_
          refine Or.inl (And.intro (inrK hx16 hl5) ?_)
          refine qn223 _ _ ?_
          refine EOk.done ?_
          exact ⟨⟨(rest12, k6 + 1, r18), hd2, h11⟩, [(209, 32)], by show rest12.length < rest12.length + 1; omega, ⟨⟨rfl, (by repeat (first | exact trivial | exact rfl | (refine And.intro ?_ ?_))), rfl, rfl, rfl, (by repeat (first | exact trivial | exact rfl | (refine And.intro ?_ ?_))), rfl, rfl, trivial⟩, ⟨rfl, rfl, trivial⟩, rfl, rfl⟩⟩
      rintro ⟨v9, hv_⟩
      replace hv_ := hv_.symm
      subst hv_
      refine qn191 _ _ ?_
      refine COk.seqQ fun Q233 qn233 qx233 qr233 => ?_
      refine COk.seqQ fun Q234 qn234 qx234 qr234 => ?_
      refine gor hn ?_
      refine lenM (fun hl20 => ?_)
      refine qn234 _ _ ?_
      obtain ⟨o22, h23, h⟩ := bindM h
      refine COk.joinR (ι := { s : Unit // o22 = Ctl.next s }) (fun s => [(1, .int a1), (2, .sl 1 (List.map eInt a2)), (3, .int a3), (4, .ptr 4 0), (9, .own 209)]) (fun s => [(4, .box (eSt a0) 28), (209, .row 6 (List.map eCe v9) 49)]) (fun Q261 qn261 qx261 qr261 => ?_) (by intro s; rw [hn]; rfl) ?_
      · refine COk.blkQ fun Q262 qn262 qe262 qx262 qr262 => ?_
        refine COk.loopQ (ι := { q : ((List Int) × Nat) // q.1 = a2.drop q.2 ∧ qclaw6_CellsOld_l2 N a0 a3 v9 q.1 q.2 = some o22 }) (fun q => [(1, .int a1), (2, .sl 1 (List.map eInt a2)), (3, .int a3), (4, .ptr 4 0), (9, .own 209), (34, .sl 1 (List.map eInt a2)), (35, .int (a2.length : Int)), (36, .int (q.1.2 : Int))]) (fun q => [(4, .box (eSt a0) 28), (209, .row 6 (List.map eCe v9) 49)]) (fun q => q.1.1.length) ⟨(a2, 0), rfl, h23⟩ [] ⟨⟨rfl, (by repeat (first | exact trivial | exact rfl | (refine And.intro ?_ ?_))), rfl, rfl, rfl, (by repeat (first | exact trivial | exact rfl | (refine And.intro ?_ ?_))), rfl, rfl, trivial⟩, ⟨rfl, rfl, trivial⟩, rfl, rfl⟩ (by intro q; rw [hn]; rfl) ?_
        rintro ⟨⟨rest_, k21⟩, hd25, h23⟩ Q263 qn263 qx263 qr263
        replace hd25 : rest_ = a2.drop k21 := hd25
        rcases rest_ with _ | ⟨x27, rest24⟩
        · have hlt29 := restNil hd25
          replace h23 := (qclaw6_CellsOld_l2.eq_1 _ _ _ _ _).symm.trans h23
          refine COk.seqQ fun Q264 qn264 qx264 qr264 => ?_
          refine gor hn ?_
          refine qn264 _ _ ?_
          refine COk.seqQ fun Q265 qn265 qx265 qr265 => ?_
          refine goc hn ?_
          refine bselF hlt29 ?_
          refine goe hn ?_
          refine qx265 _ _ _ ?_
          refine qx263 _ _ _ ?_
          refine qe262 _ _ ?_
          refine qn261 _ _ ?_
          obtain rfl := Option.some.inj h23
          refine EOk.done ?_
          exact ⟨⟨_, rfl⟩, [], trivial, ⟨⟨rfl, (by repeat (first | exact trivial | exact rfl | (refine And.intro ?_ ?_))), rfl, rfl, rfl, trivial⟩, ⟨rfl, rfl, trivial⟩, rfl, rfl⟩⟩
        · obtain ⟨hx28, hd2, hlt29⟩ := restCons hd25
          replace h23 := (qclaw6_CellsOld_l2.eq_2 _ _ _ _ _ _ _).symm.trans h23
          refine COk.seqQ fun Q266 qn266 qx266 qr266 => ?_
          refine gor hn ?_
          refine qn266 _ _ ?_
          refine COk.seqQ fun Q267 qn267 qx267 qr267 => ?_
          refine goc hn ?_
          refine bselT hlt29 ?_
          refine gok hn ?_
          refine qn267 _ _ ?_
          refine COk.seqQ fun Q268 qn268 qx268 qr268 => ?_
          refine COk.blkQ fun Q274 qn274 qe274 qx274 qr274 => ?_
          refine COk.seqQ fun Q275 qn275 qx275 qr275 => ?_
          refine gor hn ?_
          refine idxK hx28 ?_
          refine qn275 _ _ ?_
          refine COk.seqQ fun Q276 qn276 qx276 qr276 => ?_
          refine gor hn ?_
          obtain ⟨r30, hr31, h23⟩ := bindM h23
          show CallOk Try.prog _ _ _ _
          refine CallOk.lend (cells_Get_ok N v9 a0 a3 x27 r30 hr31) (by repeat (first | exact trivial | exact rfl | (refine And.intro ?_ ?_))) rfl ?_
          refine qn276 _ _ ?_
          refine goc hn ?_
          refine bselM h23 (fun hb32 h23 => ?_) (fun hb32 h23 => ?_)
          · refine COk.seqQ fun Q278 qn278 qx278 qr278 => ?_
            refine COk.sub (ts2 := []) (os2 := []) [] ⟨trivial, trivial, rfl, rfl⟩ (by rw [hn]; rfl) ?_
            refine gor hn ?_
            refine qn278 _ _ ?_
            refine got hn ?_
            refine qr274 _ _ ?_
            refine qr268 _ _ ?_
            refine qr263 _ _ ?_
            refine qr262 _ _ ?_
            refine qr261 _ _ ?_
            refine qr233 _ _ ?_
            obtain rfl := Option.some.inj h23
            obtain rfl := Option.some.inj h
            exact ⟨[], _, rfl, (by repeat (first | exact trivial | exact rfl | (refine And.intro ?_ ?_))), trivial, rfl, rfl, rfl, rfl, rfl⟩
          · refine gok hn ?_
            refine qn274 _ _ ?_
            refine qn268 _ _ ?_
            refine COk.sub (ts2 := [(1, .int a1), (2, .sl 1 (List.map eInt a2)), (3, .int a3), (4, .ptr 4 0), (9, .own 209), (34, .sl 1 (List.map eInt a2)), (35, .int (a2.length : Int)), (36, .int (k21 : Int))]) (os2 := [(4, .box (eSt a0) 28), (209, .row 6 (List.map eCe v9) 49)]) [] ⟨⟨rfl, (by repeat (first | exact trivial | exact rfl | (refine And.intro ?_ ?_))), rfl, rfl, rfl, (by repeat (first | exact trivial | exact rfl | (refine And.intro ?_ ?_))), rfl, rfl, trivial⟩, ⟨rfl, rfl, trivial⟩, rfl, rfl⟩ (by rw [hn]; rfl) ?_
            refine gor hn ?_
            refine Or.inl (And.intro (inrK hx28 hl20) ?_)
            refine qn263 _ _ ?_
            refine EOk.done ?_
            exact ⟨⟨(rest24, k21 + 1), hd2, h23⟩, [], by show rest24.length < rest24.length + 1; omega, ⟨⟨rfl, (by repeat (first | exact trivial | exact rfl | (refine And.intro ?_ ?_))), rfl, rfl, rfl, (by repeat (first | exact trivial | exact rfl | (refine And.intro ?_ ?_))), rfl, rfl, trivial⟩, ⟨rfl, rfl, trivial⟩, rfl, rfl⟩⟩
      rintro ⟨⟨⟩, rfl⟩
      refine qn233 _ _ ?_
      refine COk.seqQ fun Q279 qn279 qx279 qr279 => ?_
      refine COk.seqQ fun Q280 qn280 qx280 qr280 => ?_
      refine gor hn ?_
      refine lenM (fun hl33 => ?_)
      refine qn280 _ _ ?_
      refine goc hn ?_
      refine bselM h (fun hb34 h => ?_) (fun hb34 h => ?_)
      · refine COk.seqQ fun Q282 qn282 qx282 qr282 => ?_
        refine gor hn ?_
        refine qn282 _ _ ?_
        refine got hn ?_
        refine qr279 _ _ ?_
        obtain rfl := Option.some.inj h
        exact ⟨[], _, rfl, (by repeat (first | exact trivial | exact rfl | (refine And.intro ?_ ?_))), trivial, rfl, rfl, rfl, rfl, rfl⟩
      · refine gok hn ?_
        refine qn279 _ _ ?_
        refine COk.seqQ fun Q283 qn283 qx283 qr283 => ?_
        refine COk.fzAll 209 rfl ?_
        refine COk.sub (ts2 := [(1, .int a1), (2, .sl 1 (List.map eInt a2)), (3, .int a3), (4, .ptr 4 0), (9, .sl 6 (List.map eCe v9))]) (os2 := [(4, .box (eSt a0) 28)]) [] ⟨⟨rfl, (by repeat (first | exact trivial | exact rfl | (refine And.intro ?_ ?_))), rfl, rfl, (by repeat (first | exact trivial | exact rfl | (refine And.intro ?_ ?_))), trivial⟩, ⟨rfl, trivial⟩, rfl, rfl⟩ (by rw [hn]; rfl) ?_
        refine god hn (by kernel_rfl) ?_
        obtain ⟨x35, hx36, h⟩ := bindM h
        refine idxM hx36 ?_
        obtain ⟨r37, hr38, h⟩ := bindM h
        show CallOk Try.prog _ _ _ _
        refine CallOk.as ((cells_Put_ok N v9 a0 a3 x35 (2 : Int) r37 hr38).sw 0 56) (by repeat (first | exact trivial | exact rfl | (refine And.intro ?_ ?_))) trivial rfl ?_
        refine qn283 _ _ ?_
        refine COk.seqQ fun Q284 qn284 qx284 qr284 => ?_
        refine COk.seqQ fun Q285 qn285 qx285 qr285 => ?_
        refine gor hn ?_
        refine lenM (fun hl39 => ?_)
        refine qn285 _ _ ?_
        obtain ⟨o41, h42, h⟩ := bindM h
        refine COk.joinR (ι := { s : Unit // o41 = Ctl.next s }) (fun s => [(9, .own 56)]) (fun s => [(56, .row 6 (List.map eCe r37) 49)]) (fun Q332 qn332 qx332 qr332 => ?_) (by intro s; rw [hn]; rfl) ?_
        · refine COk.blkQ fun Q333 qn333 qe333 qx333 qr333 => ?_
          refine COk.loopQ (ι := { q : ((List Int) × Nat) // q.1 = a2.drop q.2 ∧ qclaw6_CellsOld_l3 N a0 a1 a2 a3 r37 q.1 q.2 = some o41 }) (fun q => [(1, .int a1), (2, .sl 1 (List.map eInt a2)), (3, .int a3), (4, .ptr 4 0), (9, .own 56), (57, .sl 1 (List.map eInt a2)), (58, .int (a2.length : Int)), (59, .int (q.1.2 : Int))]) (fun q => [(4, .box (eSt a0) 28), (56, .row 6 (List.map eCe r37) 49)]) (fun q => q.1.1.length) ⟨(a2, 0), rfl, h42⟩ [] ⟨⟨rfl, (by repeat (first | exact trivial | exact rfl | (refine And.intro ?_ ?_))), rfl, rfl, rfl, (by repeat (first | exact trivial | exact rfl | (refine And.intro ?_ ?_))), rfl, rfl, trivial⟩, ⟨rfl, rfl, trivial⟩, rfl, rfl⟩ (by intro q; rw [hn]; rfl) ?_
          rintro ⟨⟨rest_, k40⟩, hd44, h42⟩ Q334 qn334 qx334 qr334
          replace hd44 : rest_ = a2.drop k40 := hd44
          rcases rest_ with _ | ⟨x46, rest43⟩
          · have hlt48 := restNil hd44
            replace h42 := (qclaw6_CellsOld_l3.eq_1 _ _ _ _ _ _ _).symm.trans h42
            refine COk.seqQ fun Q335 qn335 qx335 qr335 => ?_
            refine gor hn ?_
            refine qn335 _ _ ?_
            refine COk.seqQ fun Q336 qn336 qx336 qr336 => ?_
            refine goc hn ?_
            refine bselF hlt48 ?_
            refine goe hn ?_
            refine qx336 _ _ _ ?_
            refine qx334 _ _ _ ?_
            refine qe333 _ _ ?_
            refine qn332 _ _ ?_
            obtain rfl := Option.some.inj h42
            refine EOk.done ?_
            exact ⟨⟨_, rfl⟩, [], trivial, ⟨⟨rfl, trivial⟩, ⟨rfl, trivial⟩, rfl, rfl⟩⟩
          · obtain ⟨hx47, hd2, hlt48⟩ := restCons hd44
            replace h42 := (qclaw6_CellsOld_l3.eq_2 _ _ _ _ _ _ _ _ _).symm.trans h42
            refine COk.seqQ fun Q337 qn337 qx337 qr337 => ?_
            refine gor hn ?_
            refine qn337 _ _ ?_
            refine COk.seqQ fun Q338 qn338 qx338 qr338 => ?_
            refine goc hn ?_
            refine bselT hlt48 ?_
            refine gok hn ?_
            refine qn338 _ _ ?_
            refine COk.seqQ fun Q339 qn339 qx339 qr339 => ?_
            refine COk.blkQ fun Q350 qn350 qe350 qx350 qr350 => ?_
            refine COk.seqQ fun Q351 qn351 qx351 qr351 => ?_
            refine gor hn ?_
            refine idxK hx47 ?_
            refine qn351 _ _ ?_
            refine COk.seqQ fun Q352 qn352 qx352 qr352 => ?_
            refine gor hn ?_
            refine qn352 _ _ ?_
            refine COk.seqQ fun Q353 qn353 qx353 qr353 => ?_
            refine COk.seqQ fun Q354 qn354 qx354 qr354 => ?_
            refine gor hn ?_
            obtain ⟨x49, hx50, h42⟩ := bindM h42
            refine idxM hx50 ?_
            refine qn354 _ _ ?_
            obtain ⟨o53, h52, h42⟩ := bindM h42
            refine COk.joinR (ι := { s : Int // o53 = s }) (fun s => [(1, .int a1), (2, .sl 1 (List.map eInt a2)), (3, .int a3), (4, .ptr 4 0), (9, .own 56), (15, .int x46), (16, .int s.1), (57, .sl 1 (List.map eInt a2)), (58, .int (a2.length : Int)), (59, .int (k40 : Int))]) (fun s => [(4, .box (eSt a0) 28), (56, .row 6 (List.map eCe r37) 49)]) (fun Q355 qn355 qx355 qr355 => ?_) (by intro s; rw [hn]; rfl) ?_
            · refine goc hn ?_
              refine bselM h52 (fun hb54 h52 => ?_) (fun hb54 h52 => ?_)
              · refine COk.sub (ts2 := [(1, .int a1), (2, .sl 1 (List.map eInt a2)), (3, .int a3), (4, .ptr 4 0), (9, .own 56), (15, .int x46), (57, .sl 1 (List.map eInt a2)), (58, .int (a2.length : Int)), (59, .int (k40 : Int))]) (os2 := [(4, .box (eSt a0) 28), (56, .row 6 (List.map eCe r37) 49)]) [] ⟨⟨rfl, (by repeat (first | exact trivial | exact rfl | (refine And.intro ?_ ?_))), rfl, rfl, rfl, rfl, (by repeat (first | exact trivial | exact rfl | (refine And.intro ?_ ?_))), rfl, rfl, trivial⟩, ⟨rfl, rfl, trivial⟩, rfl, rfl⟩ (by rw [hn]; rfl) ?_
                refine gor hn ?_
                refine qn355 _ _ ?_
                obtain rfl := Option.some.inj h52
                refine EOk.done ?_
                exact ⟨⟨_, rfl⟩, [], trivial, ⟨⟨rfl, (by repeat (first | exact trivial | exact rfl | (refine And.intro ?_ ?_))), rfl, rfl, rfl, rfl, rfl, (by repeat (first | exact trivial | exact rfl | (refine And.intro ?_ ?_))), rfl, rfl, trivial⟩, ⟨rfl, rfl, trivial⟩, rfl, rfl⟩⟩
              · refine gok hn ?_
                refine qn355 _ _ ?_
                obtain rfl := Option.some.inj h52
                refine EOk.done ?_
                exact ⟨⟨_, rfl⟩, [], trivial, ⟨⟨rfl, (by repeat (first | exact trivial | exact rfl | (refine And.intro ?_ ?_))), rfl, rfl, rfl, rfl, rfl, (by repeat (first | exact trivial | exact rfl | (refine And.intro ?_ ?_))), rfl, rfl, trivial⟩, ⟨rfl, rfl, trivial⟩, rfl, rfl⟩⟩
            rintro ⟨v51, hv_⟩
            replace hv_ := hv_.symm
            subst hv_
            refine qn353 _ _ ?_
            refine COk.seqQ fun Q356 qn356 qx356 qr356 => ?_
            obtain ⟨o57, h56, h42⟩ := bindM h42
            refine COk.joinR (ι := { s : Bool // o57 = s }) (fun s => [(1, .int a1), (2, .sl 1 (List.map eInt a2)), (3, .int a3), (4, .ptr 4 0), (9, .own 56), (57, .sl 1 (List.map eInt a2)), (58, .int (a2.length : Int)), (59, .int (k40 : Int)), (82, .bool s.1)]) (fun s => [(4, .box (eSt a0) 28), (56, .row 6 (List.map eCe r37) 49)]) (fun Q357 qn357 qx357 qr357 => ?_) (by intro s; rw [hn]; rfl) ?_
            · refine gor hn ?_
              obtain ⟨r58, hr59, h56⟩ := bindM h56
              show CallOk Try.prog _ _ _ _
              refine CallOk.lend (cells_Get_ok N r37 a0 a3 x46 r58 hr59) (by repeat (first | exact trivial | exact rfl | (refine And.intro ?_ ?_))) rfl ?_
              refine bselM h56 (fun hb60 h56 => ?_) (fun hb60 h56 => ?_)
              · refine bselT hb60 ?_
                refine bselT hb60 ?_
                refine bselT hb60 ?_
                refine bselT hb60 ?_
                refine bselT hb60 ?_
                refine bselT hb60 ?_
                refine qn357 _ _ ?_
                obtain rfl := Option.some.inj h56
                refine EOk.done ?_
                exact ⟨⟨_, rfl⟩, [], trivial, ⟨⟨rfl, (by repeat (first | exact trivial | exact rfl | (refine And.intro ?_ ?_))), rfl, rfl, rfl, (by repeat (first | exact trivial | exact rfl | (refine And.intro ?_ ?_))), rfl, rfl, rfl, trivial⟩, ⟨rfl, rfl, trivial⟩, rfl, rfl⟩⟩
              · refine bselF hb60 ?_
                refine bselF hb60 ?_
                refine bselF hb60 ?_
                refine bselF hb60 ?_
                obtain ⟨r61, hr62, h56⟩ := bindM h56
                show CallOk Try.prog _ _ _ _
                refine CallOk.lend (cells_Get_ok N r37 a0 a1 x46 r61 hr62) (by repeat (first | exact trivial | exact rfl | (refine And.intro ?_ ?_))) rfl ?_
                refine bselF hb60 ?_
                refine bselF hb60 ?_
                refine qn357 _ _ ?_
                obtain rfl := Option.some.inj h56
                refine EOk.done ?_
                exact ⟨⟨_, rfl⟩, [], trivial, ⟨⟨rfl, (by repeat (first | exact trivial | exact rfl | (refine And.intro ?_ ?_))), rfl, rfl, rfl, (by repeat (first | exact trivial | exact rfl | (refine And.intro ?_ ?_))), rfl, rfl, rfl, trivial⟩, ⟨rfl, rfl, trivial⟩, rfl, rfl⟩⟩
            rintro ⟨v55, hv_⟩
            replace hv_ := hv_.symm
            subst hv_
            refine qn356 _ _ ?_
            refine goc hn ?_
            refine bselM h42 (fun hb63 h42 => ?_) (fun hb63 h42 => ?_)
            · refine COk.seqQ fun Q359 qn359 qx359 qr359 => ?_
              refine gor hn ?_
              refine qn359 _ _ ?_
              refine got hn ?_
              refine qr350 _ _ ?_
              refine qr339 _ _ ?_
              refine qr334 _ _ ?_
              refine qr333 _ _ ?_
              refine qr332 _ _ ?_
              refine qr284 _ _ ?_
              obtain rfl := Option.some.inj h42
              obtain rfl := Option.some.inj h
              exact ⟨[], _, rfl, (by repeat (first | exact trivial | exact rfl | (refine And.intro ?_ ?_))), trivial, rfl, rfl, rfl, rfl, rfl⟩
            · refine gok hn ?_
              refine qn350 _ _ ?_
              refine qn339 _ _ ?_
              refine gor hn ?_
              refine Or.inl (And.intro (inrK hx47 hl39) ?_)
              refine qn334 _ _ ?_
              refine EOk.done ?_
              exact ⟨⟨(rest43, k40 + 1), hd2, h42⟩, [], by show rest43.length < rest43.length + 1; omega, ⟨⟨rfl, (by repeat (first | exact trivial | exact rfl | (refine And.intro ?_ ?_))), rfl, rfl, rfl, (by repeat (first | exact trivial | exact rfl | (refine And.intro ?_ ?_))), rfl, rfl, trivial⟩, ⟨rfl, rfl, trivial⟩, rfl, rfl⟩⟩
        rintro ⟨⟨⟩, rfl⟩
        refine qn284 _ _ ?_
        refine COk.seqQ fun Q360 qn360 qx360 qr360 => ?_
        refine gor hn ?_
        refine lenM (fun hl64 => ?_)
        refine qn360 _ _ ?_
        refine got hn ?_
        obtain rfl := Option.some.inj h
        exact ⟨[], _, rfl, (by repeat (first | exact trivial | exact rfl | (refine And.intro ?_ ?_))), trivial, rfl, rfl, rfl, rfl, rfl⟩
end Go.Proofs.Ytoceeiamcfdnlaa
