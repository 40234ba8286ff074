/- Walks after the mirrors. Printed by mir.py. -/
import Derived.Test.YtoceeiamcfdnlaaMir
import Derived.Test.YtoceeiamcfdnlaaYnew
namespace Go.Proofs.Ytoceeiamcfdnlaa
open Go.RowKit
set_option linter.unusedVariables false
/- slices.BinarySearchFunc[[]api.Method,api.Method,string] -/
set_option maxRecDepth 100000 in
set_option maxHeartbeats 1000000 in
theorem slices_BinarySearchFunc_api_Method_api_Method_string_ok (N : Nat) (a0 : (List Me)) (a1 : ByteArray) (g2 : Me → ByteArray → Option Int) {K2 : Nat} (hg2 : ∀ x0_ x1_ y_, g2 x0_ x1_ = some y_ → Spec Try.prog K2 [] [.agg (eMe x0_), .str x1_] (.int y_) [] []) (r : (Int × Bool)) (h : slices_BinarySearchFunc_api_Method_api_Method_string N a0 a1 g2 = some r) : Spec Try.prog 69 [] [.sl 5 (List.map eMe a0), .str a1, .fn K2 []] (.tup [.int r.1, .bool r.2]) [] [] := by
  refine Spec.of tabOk Try.func69 rfl Try.ntmps69 (by kernel_rfl) rfl rfl rfl fun Γ hn => ?_
  unfold slices_BinarySearchFunc_api_Method_api_Method_string at h
  refine COk.seqQ fun Q50 qn50 qx50 qr50 => ?_
  refine gor hn ?_
  refine qn50 _ _ ?_
  refine COk.seqQ fun Q51 qn51 qx51 qr51 => ?_
  refine gor hn ?_
  refine lenM (fun hl1 => ?_)
  refine qn51 _ _ ?_
  refine COk.seqQ fun Q52 qn52 qx52 qr52 => ?_
  refine gor hn ?_
  refine qn52 _ _ ?_
  refine COk.seqQ fun Q53 qn53 qx53 qr53 => ?_
  obtain ⟨o8, h9, h⟩ := bindM h
  refine COk.joinR (ι := { s : Int // o8 = s }) (fun s => [(0, .sl 5 (List.map eMe a0)), (1, .str a1), (2, .fn K2 []), (8, .int (a0.length : Int)), (9, .int s.1)]) (fun s => []) (fun Q84 qn84 qx84 qr84 => ?_) (by intro s; rw [hn]; rfl) ?_
  · refine COk.blkQ fun Q85 qn85 qe85 qx85 qr85 => ?_
    refine COk.loopQ (ι := { q : (Nat × Int × Int) // slices_BinarySearchFunc_api_Method_api_Method_string_l1 N a0 a1 g2 q.1 q.2.1 q.2.2 = some o8 }) (fun q => [(0, .sl 5 (List.map eMe a0)), (1, .str a1), (2, .fn K2 []), (8, .int (a0.length : Int)), (9, .int q.1.2.1), (10, .int q.1.2.2)]) (fun q => []) (fun q => q.1.1) ⟨(N, (0 : Int), (a0.length : Int)), h9⟩ [] ⟨⟨(by repeat (first | exact trivial | exact rfl | (refine And.intro ?_ ?_))), rfl, rfl, rfl, rfl, rfl, trivial⟩, trivial, rfl, rfl⟩ (by intro q; rw [hn]; rfl) ?_
    rintro ⟨⟨n_, v3, v4⟩, h9⟩ Q86 qn86 qx86 qr86
    rcases n_ with _ | n12
    · rw [slices_BinarySearchFunc_api_Method_api_Method_string_l1.eq_1] at h9
      cases h9
    · replace h9 := (slices_BinarySearchFunc_api_Method_api_Method_string_l1.eq_2 _ _ _ _ _ _ _).symm.trans h9
      refine COk.seqQ fun Q87 qn87 qx87 qr87 => ?_
      refine COk.seqQ fun Q88 qn88 qx88 qr88 => ?_
      refine gor hn ?_
      refine qn88 _ _ ?_
      refine goc hn ?_
      refine bselM h9 (fun hb13 h9 => ?_) (fun hb13 h9 => ?_)
      · refine gok hn ?_
        refine qn87 _ _ ?_
        refine COk.blkQ fun Q93 qn93 qe93 qx93 qr93 => ?_
        refine COk.seqQ fun Q94 qn94 qx94 qr94 => ?_
        refine gor hn ?_
        refine Or.inr ?_
        obtain ⟨hg14, h9⟩ := guardM h9
        refine decM hg14 ?_
        refine And.intro rfl ?_
        refine And.intro rfl ?_
        obtain ⟨hg15, h9⟩ := guardM h9
        refine decM hg15 ?_
        refine qn94 _ _ ?_
        refine COk.seqQ fun Q95 qn95 qx95 qr95 => ?_
        refine gor hn ?_
        obtain ⟨x16, hx17, h9⟩ := bindM h9
        refine idxM hx17 ?_
        obtain ⟨r18, hr19, h9⟩ := bindM h9
        show CallOk Try.prog _ _ _ _
        refine CallOk.as (hg2 _ _ _ hr19) (by repeat (first | exact trivial | exact rfl | (refine And.intro ?_ ?_))) trivial rfl ?_
        refine qn95 _ _ ?_
        obtain ⟨o23, h22, h9⟩ := bindM h9
        refine COk.joinR (ι := { s : (Int × Int) // o23 = s }) (fun s => [(0, .sl 5 (List.map eMe a0)), (1, .str a1), (2, .fn K2 []), (8, .int (a0.length : Int)), (9, .int s.1.1), (10, .int s.1.2)]) (fun s => []) (fun Q96 qn96 qx96 qr96 => ?_) (by intro s; rw [hn]; rfl) ?_
        · refine goc hn ?_
          refine bselM h22 (fun hb24 h22 => ?_) (fun hb24 h22 => ?_)
          · refine COk.sub (ts2 := [(0, .sl 5 (List.map eMe a0)), (1, .str a1), (2, .fn K2 []), (8, .int (a0.length : Int)), (10, .int v4), (11, .int ((wr (v3 + v4)) / 2))]) (os2 := []) [] ⟨⟨(by repeat (first | exact trivial | exact rfl | (refine And.intro ?_ ?_))), rfl, rfl, rfl, rfl, rfl, trivial⟩, trivial, rfl, rfl⟩ (by rw [hn]; rfl) ?_
            refine gor hn ?_
            refine Or.inr ?_
            refine qn96 _ _ ?_
            obtain rfl := Option.some.inj h22
            refine EOk.done ?_
            exact ⟨⟨_, rfl⟩, [], trivial, ⟨⟨(by repeat (first | exact trivial | exact rfl | (refine And.intro ?_ ?_))), rfl, rfl, rfl, rfl, rfl, trivial⟩, trivial, rfl, rfl⟩⟩
          · refine COk.sub (ts2 := [(0, .sl 5 (List.map eMe a0)), (1, .str a1), (2, .fn K2 []), (8, .int (a0.length : Int)), (9, .int v3), (11, .int ((wr (v3 + v4)) / 2))]) (os2 := []) [] ⟨⟨(by repeat (first | exact trivial | exact rfl | (refine And.intro ?_ ?_))), rfl, rfl, rfl, rfl, rfl, trivial⟩, trivial, rfl, rfl⟩ (by rw [hn]; rfl) ?_
            refine gor hn ?_
            refine qn96 _ _ ?_
            obtain rfl := Option.some.inj h22
            refine EOk.done ?_
            exact ⟨⟨_, rfl⟩, [], trivial, ⟨⟨(by repeat (first | exact trivial | exact rfl | (refine And.intro ?_ ?_))), rfl, rfl, rfl, rfl, rfl, trivial⟩, trivial, rfl, rfl⟩⟩
        rintro ⟨⟨v20, v21⟩, rfl⟩
        refine qn93 _ _ ?_
        refine qn86 _ _ ?_
        refine EOk.done ?_
        exact ⟨⟨(n12, v20, v21), h9⟩, [], by show n12 < n12 + 1; omega, ⟨⟨(by repeat (first | exact trivial | exact rfl | (refine And.intro ?_ ?_))), rfl, rfl, rfl, rfl, rfl, trivial⟩, trivial, rfl, rfl⟩⟩
      · refine goe hn ?_
        refine qx87 _ _ _ ?_
        refine qx86 _ _ _ ?_
        refine qe85 _ _ ?_
        refine qn84 _ _ ?_
        obtain rfl := Option.some.inj h9
        refine EOk.done ?_
        exact ⟨⟨_, rfl⟩, [], trivial, ⟨⟨(by repeat (first | exact trivial | exact rfl | (refine And.intro ?_ ?_))), rfl, rfl, rfl, rfl, trivial⟩, trivial, rfl, rfl⟩⟩
  rintro ⟨v7, hv_⟩
  replace hv_ := hv_.symm
  subst hv_
  refine qn53 _ _ ?_
  refine COk.seqQ fun Q97 qn97 qx97 qr97 => ?_
  obtain ⟨o27, h26, h⟩ := bindM h
  refine COk.joinR (ι := { s : Bool // o27 = s }) (fun s => [(6, .int v7), (7, .bool s.1)]) (fun s => []) (fun Q98 qn98 qx98 qr98 => ?_) (by intro s; rw [hn]; rfl) ?_
  · refine gor hn ?_
    refine bselM h26 (fun hb28 h26 => ?_) (fun hb28 h26 => ?_)
    · refine bselT hb28 ?_
      refine bselT hb28 ?_
      refine bselT hb28 ?_
      obtain ⟨x29, hx30, h26⟩ := bindM h26
      refine idxM hx30 ?_
      refine bselT hb28 ?_
      refine bselT hb28 ?_
      refine bselT hb28 ?_
      obtain ⟨r31, hr32, h26⟩ := bindM h26
      show CallOk Try.prog _ _ _ _
      refine CallOk.as (hg2 _ _ _ hr32) (by repeat (first | exact trivial | exact rfl | (refine And.intro ?_ ?_))) trivial rfl ?_
      refine bselT hb28 ?_
      refine bselT hb28 ?_
      refine qn98 _ _ ?_
      obtain rfl := Option.some.inj h26
      refine EOk.done ?_
      exact ⟨⟨_, rfl⟩, [], trivial, ⟨⟨rfl, rfl, trivial⟩, trivial, rfl, rfl⟩⟩
    · refine bselF hb28 ?_
      refine bselF hb28 ?_
      refine bselF hb28 ?_
      refine bselF hb28 ?_
      refine bselF hb28 ?_
      refine bselF hb28 ?_
      refine bselF hb28 ?_
      refine bselF hb28 ?_
      refine qn98 _ _ ?_
      obtain rfl := Option.some.inj h26
      refine EOk.done ?_
      exact ⟨⟨_, rfl⟩, [], trivial, ⟨⟨rfl, rfl, trivial⟩, trivial, rfl, rfl⟩⟩
  rintro ⟨v25, hv_⟩
  replace hv_ := hv_.symm
  subst hv_
  refine qn97 _ _ ?_
  refine got hn ?_
  obtain rfl := Option.some.inj h
  exact ⟨[], _, rfl, (by repeat (first | exact trivial | exact rfl | (refine And.intro ?_ ?_))), trivial, rfl, rfl, rfl, rfl, rfl⟩

/- cmp.isNaN[string] -/
set_option maxRecDepth 100000 in
set_option maxHeartbeats 1000000 in
theorem cmp_isNaN_string_ok (N : Nat) (a0 : ByteArray) (r : Bool) (h : cmp_isNaN_string N a0 = some r) : Spec Try.prog 106 [] [.str a0] (.bool r) [] [] := by
  refine Spec.of tabOk Try.func106 rfl Try.ntmps106 (by kernel_rfl) rfl rfl rfl fun Γ hn => ?_
  unfold cmp_isNaN_string at h
  refine COk.seqQ fun Q3 qn3 qx3 qr3 => ?_
  refine gor hn ?_
  refine qn3 _ _ ?_
  refine COk.seqQ fun Q4 qn4 qx4 qr4 => ?_
  refine gor hn ?_
  refine qn4 _ _ ?_
  refine got hn ?_
  obtain rfl := Option.some.inj h
  exact ⟨[], _, rfl, (by repeat (first | exact trivial | exact rfl | (refine And.intro ?_ ?_))), trivial, rfl, rfl, rfl, rfl, rfl⟩

/- cmp.Compare[string] -/
set_option maxRecDepth 100000 in
set_option maxHeartbeats 1000000 in
theorem cmp_Compare_string_ok (N : Nat) (a0 : ByteArray) (a1 : ByteArray) (r : Int) (h : cmp_Compare_string N a0 a1 = some r) : Spec Try.prog 86 [] [.str a0, .str a1] (.int r) [] [] := by
  refine Spec.of tabOk Try.func86 rfl Try.ntmps86 (by kernel_rfl) rfl rfl rfl fun Γ hn => ?_
  unfold cmp_Compare_string at h
  refine COk.seqQ fun Q29 qn29 qx29 qr29 => ?_
  refine gor hn ?_
  refine qn29 _ _ ?_
  refine COk.seqQ fun Q30 qn30 qx30 qr30 => ?_
  refine gor hn ?_
  obtain ⟨r1, hr2, h⟩ := bindM h
  show CallOk Try.prog _ _ _ _
  refine CallOk.as (cmp_isNaN_string_ok N a0 r1 hr2) (by repeat (first | exact trivial | exact rfl | (refine And.intro ?_ ?_))) trivial rfl ?_
  refine qn30 _ _ ?_
  refine COk.seqQ fun Q31 qn31 qx31 qr31 => ?_
  refine gor hn ?_
  obtain ⟨r3, hr4, h⟩ := bindM h
  show CallOk Try.prog _ _ _ _
  refine CallOk.as (cmp_isNaN_string_ok N a1 r3 hr4) (by repeat (first | exact trivial | exact rfl | (refine And.intro ?_ ?_))) trivial rfl ?_
  refine qn31 _ _ ?_
  refine COk.seqQ fun Q32 qn32 qx32 qr32 => ?_
  refine COk.seqQ fun Q33 qn33 qx33 qr33 => ?_
  refine gor hn ?_
  refine qn33 _ _ ?_
  refine goc hn ?_
  refine bselM h (fun hb5 h => ?_) (fun hb5 h => ?_)
  · refine COk.seqQ fun Q39 qn39 qx39 qr39 => ?_
    refine COk.seqQ fun Q40 qn40 qx40 qr40 => ?_
    refine gor hn ?_
    refine qn40 _ _ ?_
    refine goc hn ?_
    refine bselM h (fun hb6 h => ?_) (fun hb6 h => ?_)
    · refine COk.seqQ fun Q42 qn42 qx42 qr42 => ?_
      refine gor hn ?_
      refine qn42 _ _ ?_
      refine got hn ?_
      refine qr39 _ _ ?_
      refine qr32 _ _ ?_
      obtain rfl := Option.some.inj h
      exact ⟨[], _, rfl, (by repeat (first | exact trivial | exact rfl | (refine And.intro ?_ ?_))), trivial, rfl, rfl, rfl, rfl, rfl⟩
    · refine gok hn ?_
      refine qn39 _ _ ?_
      refine COk.seqQ fun Q43 qn43 qx43 qr43 => ?_
      refine gor hn ?_
      refine qn43 _ _ ?_
      refine got hn ?_
      refine qr32 _ _ ?_
      obtain rfl := Option.some.inj h
      exact ⟨[], _, rfl, (by repeat (first | exact trivial | exact rfl | (refine And.intro ?_ ?_))), trivial, rfl, rfl, rfl, rfl, rfl⟩
  · refine gok hn ?_
    refine qn32 _ _ ?_
    refine COk.seqQ fun Q44 qn44 qx44 qr44 => ?_
    refine COk.seqQ fun Q45 qn45 qx45 qr45 => ?_
    refine gor hn ?_
    refine qn45 _ _ ?_
    refine goc hn ?_
    refine bselM h (fun hb7 h => ?_) (fun hb7 h => ?_)
    · refine COk.seqQ fun Q47 qn47 qx47 qr47 => ?_
      refine gor hn ?_
      refine qn47 _ _ ?_
      refine got hn ?_
      refine qr44 _ _ ?_
      obtain rfl := Option.some.inj h
      exact ⟨[], _, rfl, (by repeat (first | exact trivial | exact rfl | (refine And.intro ?_ ?_))), trivial, rfl, rfl, rfl, rfl, rfl⟩
    · refine gok hn ?_
      refine qn44 _ _ ?_
      refine COk.seqQ fun Q48 qn48 qx48 qr48 => ?_
      refine COk.seqQ fun Q49 qn49 qx49 qr49 => ?_
      refine gor hn ?_
      refine qn49 _ _ ?_
      refine goc hn ?_
      refine bselM h (fun hb8 h => ?_) (fun hb8 h => ?_)
      · refine COk.seqQ fun Q51 qn51 qx51 qr51 => ?_
        refine gor hn ?_
        refine qn51 _ _ ?_
        refine got hn ?_
        refine qr48 _ _ ?_
        obtain rfl := Option.some.inj h
        exact ⟨[], _, rfl, (by repeat (first | exact trivial | exact rfl | (refine And.intro ?_ ?_))), trivial, rfl, rfl, rfl, rfl, rfl⟩
      · refine gok hn ?_
        refine qn48 _ _ ?_
        refine COk.seqQ fun Q52 qn52 qx52 qr52 => ?_
        refine COk.seqQ fun Q53 qn53 qx53 qr53 => ?_
        refine gor hn ?_
        refine qn53 _ _ ?_
        refine goc hn ?_
        refine bselM h (fun hb9 h => ?_) (fun hb9 h => ?_)
        · refine COk.seqQ fun Q55 qn55 qx55 qr55 => ?_
          refine COk.sub (ts2 := []) (os2 := []) [] ⟨trivial, trivial, rfl, rfl⟩ (by rw [hn]; rfl) ?_
          refine gor hn ?_
          refine qn55 _ _ ?_
          refine got hn ?_
          refine qr52 _ _ ?_
          obtain rfl := Option.some.inj h
          exact ⟨[], _, rfl, (by repeat (first | exact trivial | exact rfl | (refine And.intro ?_ ?_))), trivial, rfl, rfl, rfl, rfl, rfl⟩
        · refine gok hn ?_
          refine qn52 _ _ ?_
          refine COk.seqQ fun Q56 qn56 qx56 qr56 => ?_
          refine COk.sub (ts2 := []) (os2 := []) [] ⟨trivial, trivial, rfl, rfl⟩ (by rw [hn]; rfl) ?_
          refine gor hn ?_
          refine qn56 _ _ ?_
          refine got hn ?_
          obtain rfl := Option.some.inj h
          exact ⟨[], _, rfl, (by repeat (first | exact trivial | exact rfl | (refine And.intro ?_ ?_))), trivial, rfl, rfl, rfl, rfl, rfl⟩

/- class.order -/
set_option maxRecDepth 100000 in
set_option maxHeartbeats 1000000 in
theorem class_order_ok (N : Nat) (a0 : Me) (a1 : ByteArray) (r : Int) (h : class_order N a0 a1 = some r) : Spec Try.prog 67 [] [.agg (eMe a0), .str a1] (.int r) [] [] := by
  refine Spec.of tabOk Try.func67 rfl Try.ntmps67 (by kernel_rfl) rfl rfl rfl fun Γ hn => ?_
  unfold class_order at h
  refine COk.seqQ fun Q3 qn3 qx3 qr3 => ?_
  refine gor hn ?_
  refine qn3 _ _ ?_
  refine COk.seqQ fun Q4 qn4 qx4 qr4 => ?_
  refine gor hn ?_
  obtain ⟨r1, hr2, h⟩ := bindM h
  show CallOk Try.prog _ _ _ _
  refine CallOk.as (cmp_Compare_string_ok N a0.name a1 r1 hr2) (by repeat (first | exact trivial | exact rfl | (refine And.intro ?_ ?_))) trivial rfl ?_
  refine qn4 _ _ ?_
  refine got hn ?_
  obtain rfl := Option.some.inj h
  exact ⟨[], _, rfl, (by repeat (first | exact trivial | exact rfl | (refine And.intro ?_ ?_))), trivial, rfl, rfl, rfl, rfl, rfl⟩

/- class.Find -/
set_option maxRecDepth 100000 in
set_option maxHeartbeats 1000000 in
theorem class_Find_ok (N : Nat) (a0 : Wd) (a1 : Int) (a2 : ByteArray) (r : (Int × Int)) (h : class_Find N a0 a1 a2 = some r) : Spec Try.prog 39 [] [.agg (eWd a0), .int a1, .str a2] (.tup [.int r.1, .int r.2]) [] [] := by
  refine Spec.of tabOk Try.func39 rfl Try.ntmps39 (by kernel_rfl) rfl rfl rfl fun Γ hn => ?_
  unfold class_Find at h
  refine COk.seqQ fun Q72 qn72 qx72 qr72 => ?_
  refine gor hn ?_
  refine qn72 _ _ ?_
  refine COk.seqQ fun Q73 qn73 qx73 qr73 => ?_
  refine COk.seqQ fun Q74 qn74 qx74 qr74 => ?_
  refine gor hn ?_
  refine qn74 _ _ ?_
  obtain ⟨o6, h7, h⟩ := bindM h
  refine COk.joinR (ι := { s : Unit // o6 = Ctl.next s }) (fun s => []) (fun s => []) (fun Q123 qn123 qx123 qr123 => ?_) (by intro s; rw [hn]; rfl) ?_
  · refine COk.blkQ fun Q124 qn124 qe124 qx124 qr124 => ?_
    refine COk.loopQ (ι := { q : (Nat × Int × Int) // class_Find_l1 N a0 a2 q.1 q.2.1 q.2.2 = some o6 }) (fun q => [(1, .int q.1.2.1), (2, .str a2), (3, .ptr 3 0), (8, .int q.1.2.2)]) (fun q => [(3, .box (eWd a0) 26)]) (fun q => q.1.1) ⟨(N, a1, (0 : Int)), h7⟩ [] ⟨⟨rfl, rfl, rfl, rfl, trivial⟩, ⟨rfl, trivial⟩, rfl, rfl⟩ (by intro q; rw [hn]; rfl) ?_
    rintro ⟨⟨n_, v2, v3⟩, h7⟩ Q125 qn125 qx125 qr125
    rcases n_ with _ | n10
    · rw [class_Find_l1.eq_1] at h7
      cases h7
    · replace h7 := (class_Find_l1.eq_2 _ _ _ _ _ _).symm.trans h7
      refine COk.seqQ fun Q126 qn126 qx126 qr126 => ?_
      refine COk.seqQ fun Q127 qn127 qx127 qr127 => ?_
      obtain ⟨o13, h12, h7⟩ := bindM h7
      refine COk.joinR (ι := { s : Bool // o13 = s }) (fun s => [(1, .int v2), (2, .str a2), (3, .ptr 3 0), (8, .int v3), (26, .bool s.1)]) (fun s => [(3, .box (eWd a0) 26)]) (fun Q128 qn128 qx128 qr128 => ?_) (by intro s; rw [hn]; rfl) ?_
      · refine gor hn ?_
        refine bselM h12 (fun hb14 h12 => ?_) (fun hb14 h12 => ?_)
        · refine bselT hb14 ?_
          refine bselT hb14 ?_
          refine bselT hb14 ?_
          refine lenM (fun hl15 => ?_)
          refine bselT hb14 ?_
          refine bselT hb14 ?_
          refine bselM h12 (fun hb16 h12 => ?_) (fun hb16 h12 => ?_)
          · refine bselT hb16 ?_
            refine bselT hb16 ?_
            refine bselT hb16 ?_
            refine lenM (fun hl17 => ?_)
            refine bselT hb16 ?_
            refine bselT hb16 ?_
            refine qn128 _ _ ?_
            obtain rfl := Option.some.inj h12
            refine EOk.done ?_
            exact ⟨⟨_, rfl⟩, [], trivial, ⟨⟨rfl, rfl, rfl, rfl, rfl, trivial⟩, ⟨rfl, trivial⟩, rfl, rfl⟩⟩
          · refine bselF hb16 ?_
            refine bselF hb16 ?_
            refine bselF hb16 ?_
            refine bselF hb16 ?_
            refine bselF hb16 ?_
            refine qn128 _ _ ?_
            obtain rfl := Option.some.inj h12
            refine EOk.done ?_
            exact ⟨⟨_, rfl⟩, [], trivial, ⟨⟨rfl, rfl, rfl, rfl, rfl, trivial⟩, ⟨rfl, trivial⟩, rfl, rfl⟩⟩
        · refine bselF hb14 ?_
          refine bselF hb14 ?_
          refine bselF hb14 ?_
          refine bselF hb14 ?_
          refine bselF hb14 ?_
          refine qn128 _ _ ?_
          obtain rfl := Option.some.inj h12
          refine EOk.done ?_
          exact ⟨⟨_, rfl⟩, [], trivial, ⟨⟨rfl, rfl, rfl, rfl, rfl, trivial⟩, ⟨rfl, trivial⟩, rfl, rfl⟩⟩
      rintro ⟨v11, hv_⟩
      replace hv_ := hv_.symm
      subst hv_
      refine qn127 _ _ ?_
      refine goc hn ?_
      refine bselM h7 (fun hb18 h7 => ?_) (fun hb18 h7 => ?_)
      · refine gok hn ?_
        refine qn126 _ _ ?_
        refine COk.seqQ fun Q129 qn129 qx129 qr129 => ?_
        refine COk.blkQ fun Q136 qn136 qe136 qx136 qr136 => ?_
        refine COk.seqQ fun Q137 qn137 qx137 qr137 => ?_
        refine COk.seqQ fun Q138 qn138 qx138 qr138 => ?_
        refine gor hn ?_
        obtain ⟨x19, hx20, h7⟩ := bindM h7
        refine idxM hx20 ?_
        obtain ⟨r21, hr22, h7⟩ := bindM h7
        show CallOk Try.prog _ _ _ _
        refine CallOk.as (slices_BinarySearchFunc_api_Method_api_Method_string_ok N x19.methods a2 (fun x0_ x1_ => class_order N x0_ x1_) (fun x0_ x1_ y_ hy_ => class_order_ok N x0_ x1_ y_ hy_) r21 hr22) (by repeat (first | exact trivial | exact rfl | (refine And.intro ?_ ?_))) trivial rfl ?_
        refine qn138 _ _ ?_
        refine COk.seqQ fun Q139 qn139 qx139 qr139 => ?_
        refine COk.sub (ts2 := [(1, .int v2), (2, .str a2), (3, .ptr 3 0), (8, .int v3), (9, .int r21.1), (10, .bool r21.2)]) (os2 := [(3, .box (eWd a0) 26)]) [] ⟨⟨rfl, rfl, rfl, rfl, rfl, rfl, trivial⟩, ⟨rfl, trivial⟩, rfl, rfl⟩ (by rw [hn]; rfl) ?_
        refine gor hn ?_
        refine qn139 _ _ ?_
        refine goc hn ?_
        refine bselM h7 (fun hb23 h7 => ?_) (fun hb23 h7 => ?_)
        · refine COk.seqQ fun Q141 qn141 qx141 qr141 => ?_
          refine gor hn ?_
          refine qn141 _ _ ?_
          refine got hn ?_
          refine qr137 _ _ ?_
          refine qr136 _ _ ?_
          refine qr129 _ _ ?_
          refine qr125 _ _ ?_
          refine qr124 _ _ ?_
          refine qr123 _ _ ?_
          refine qr73 _ _ ?_
          obtain rfl := Option.some.inj h7
          obtain rfl := Option.some.inj h
          exact ⟨[], _, rfl, (by repeat (first | exact trivial | exact rfl | (refine And.intro ?_ ?_))), trivial, rfl, rfl, rfl, rfl, rfl⟩
        · refine gok hn ?_
          refine qn137 _ _ ?_
          refine gor hn ?_
          obtain ⟨x24, hx25, h7⟩ := bindM h7
          refine idxM hx25 ?_
          refine qn136 _ _ ?_
          refine qn129 _ _ ?_
          refine gor hn ?_
          refine Or.inr ?_
          refine qn125 _ _ ?_
          refine EOk.done ?_
          exact ⟨⟨(n10, x24.super, (wr (v3 + (1 : Int)))), h7⟩, [], by show n10 < n10 + 1; omega, ⟨⟨rfl, rfl, rfl, rfl, trivial⟩, ⟨rfl, trivial⟩, rfl, rfl⟩⟩
      · refine goe hn ?_
        refine qx126 _ _ _ ?_
        refine qx125 _ _ _ ?_
        refine qe124 _ _ ?_
        refine qn123 _ _ ?_
        obtain rfl := Option.some.inj h7
        refine EOk.done ?_
        exact ⟨⟨_, rfl⟩, [], trivial, ⟨trivial, trivial, rfl, rfl⟩⟩
  rintro ⟨⟨⟩, rfl⟩
  refine qn73 _ _ ?_
  refine COk.seqQ fun Q142 qn142 qx142 qr142 => ?_
  refine gor hn ?_
  refine qn142 _ _ ?_
  refine got hn ?_
  obtain rfl := Option.some.inj h
  exact ⟨[], _, rfl, (by repeat (first | exact trivial | exact rfl | (refine And.intro ?_ ?_))), trivial, rfl, rfl, rfl, rfl, rfl⟩

/- qcref1.Ups -/
set_option maxRecDepth 100000 in
set_option maxHeartbeats 1000000 in
theorem qcref1_Ups_ok (N : Nat) (a0 : Wd) (a1 : Int) (r : (List Int)) (h : qcref1_Ups N a0 a1 = some r) : Spec Try.prog 53 [] [.agg (eWd a0), .int a1] (.own 0) [(0, .row 1 (List.map eInt r) 3)] [0] := by
  refine Spec.of tabOk Try.func53 rfl Try.ntmps53 (by kernel_rfl) rfl rfl rfl fun Γ hn => ?_
  unfold qcref1_Ups at h
  refine COk.seqQ fun Q43 qn43 qx43 qr43 => ?_
  refine gor hn ?_
  refine qn43 _ _ ?_
  refine COk.seqQ fun Q44 qn44 qx44 qr44 => ?_
  refine gor hn ?_
  refine qn44 _ _ ?_
  refine COk.seqQ fun Q45 qn45 qx45 qr45 => ?_
  refine COk.nilrow 5 205 1 3 rfl rfl rfl ?_
  obtain ⟨o7, h8, h⟩ := bindM h
  refine COk.joinR (ι := { s : (List Int) // o7 = s }) (fun s => [(5, .own 205)]) (fun s => [(205, .row 1 (List.map eInt s.1) 3)]) (fun Q74 qn74 qx74 qr74 => ?_) (by intro s; rw [hn]; rfl) ?_
  · refine COk.blkQ fun Q75 qn75 qe75 qx75 qr75 => ?_
    refine COk.loopQ (ι := { q : (Nat × Int × (List Int)) // qcref1_Ups_l1 N a0 q.1 q.2.1 q.2.2 = some o7 }) (fun q => [(1, .int q.1.2.1), (2, .ptr 2 0), (5, .own 205)]) (fun q => [(2, .box (eWd a0) 26), (205, .row 1 (List.map eInt q.1.2.2) 3)]) (fun q => q.1.1) ⟨(N, a1, ([] : List Int)), h8⟩ [] ⟨⟨rfl, rfl, rfl, trivial⟩, ⟨rfl, rfl, trivial⟩, rfl, rfl⟩ (by intro q; rw [hn]; rfl) ?_
    rintro ⟨⟨n_, v2, v3⟩, h8⟩ Q76 qn76 qx76 qr76
    rcases n_ with _ | n11
    · rw [qcref1_Ups_l1.eq_1] at h8
      cases h8
    · replace h8 := (qcref1_Ups_l1.eq_2 _ _ _ _ _).symm.trans h8
      refine COk.seqQ fun Q77 qn77 qx77 qr77 => ?_
      refine COk.seqQ fun Q78 qn78 qx78 qr78 => ?_
      obtain ⟨o14, h13, h8⟩ := bindM h8
      refine COk.joinR (ι := { s : Bool // o14 = s }) (fun s => [(1, .int v2), (2, .ptr 2 0), (5, .own 205), (22, .bool s.1)]) (fun s => [(2, .box (eWd a0) 26), (205, .row 1 (List.map eInt v3) 3)]) (fun Q79 qn79 qx79 qr79 => ?_) (by intro s; rw [hn]; rfl) ?_
      · refine gor hn ?_
        refine bselM h13 (fun hb15 h13 => ?_) (fun hb15 h13 => ?_)
        · refine bselT hb15 ?_
          refine bselT hb15 ?_
          refine bselT hb15 ?_
          refine lenM (fun hl16 => ?_)
          refine bselT hb15 ?_
          refine bselT hb15 ?_
          refine bselM h13 (fun hb17 h13 => ?_) (fun hb17 h13 => ?_)
          · refine bselT hb17 ?_
            refine lenM (fun hl18 => ?_)
            refine bselT hb17 ?_
            refine bselT hb17 ?_
            refine bselT hb17 ?_
            refine lenM (fun hl19 => ?_)
            refine bselT hb17 ?_
            refine bselT hb17 ?_
            refine qn79 _ _ ?_
            obtain rfl := Option.some.inj h13
            refine EOk.done ?_
            exact ⟨⟨_, rfl⟩, [], trivial, ⟨⟨rfl, rfl, rfl, rfl, trivial⟩, ⟨rfl, rfl, trivial⟩, rfl, rfl⟩⟩
          · refine bselF hb17 ?_
            refine bselF hb17 ?_
            refine bselF hb17 ?_
            refine bselF hb17 ?_
            refine bselF hb17 ?_
            refine bselF hb17 ?_
            refine qn79 _ _ ?_
            obtain rfl := Option.some.inj h13
            refine EOk.done ?_
            exact ⟨⟨_, rfl⟩, [], trivial, ⟨⟨rfl, rfl, rfl, rfl, trivial⟩, ⟨rfl, rfl, trivial⟩, rfl, rfl⟩⟩
        · refine bselF hb15 ?_
          refine bselF hb15 ?_
          refine bselF hb15 ?_
          refine bselF hb15 ?_
          refine bselF hb15 ?_
          refine qn79 _ _ ?_
          obtain rfl := Option.some.inj h13
          refine EOk.done ?_
          exact ⟨⟨_, rfl⟩, [], trivial, ⟨⟨rfl, rfl, rfl, rfl, trivial⟩, ⟨rfl, rfl, trivial⟩, rfl, rfl⟩⟩
      rintro ⟨v12, hv_⟩
      replace hv_ := hv_.symm
      subst hv_
      refine qn78 _ _ ?_
      refine goc hn ?_
      refine bselM h8 (fun hb20 h8 => ?_) (fun hb20 h8 => ?_)
      · refine gok hn ?_
        refine qn77 _ _ ?_
        refine COk.blkQ fun Q82 qn82 qe82 qx82 qr82 => ?_
        refine COk.seqQ fun Q83 qn83 qx83 qr83 => ?_
        refine gor hn ?_
        refine Exists.intro (List.map eInt [v2]) (And.intro (by repeat (first | exact trivial | exact rfl | (refine And.intro ?_ ?_))) ?_)
        obtain ⟨hg21, h8⟩ := guardM h8
        refine appM (l2 := [v2]) hg21 (leLs_refl _) ?_
        refine qn83 _ _ ?_
        refine gor hn ?_
        obtain ⟨x22, hx23, h8⟩ := bindM h8
        refine idxM hx23 ?_
        refine qn82 _ _ ?_
        refine qn76 _ _ ?_
        refine EOk.done ?_
        exact ⟨⟨(n11, x22.super, (v3 ++ [v2])), h8⟩, [(205, 26)], by show n11 < n11 + 1; omega, ⟨⟨rfl, rfl, rfl, trivial⟩, ⟨rfl, rfl, trivial⟩, rfl, rfl⟩⟩
      · refine goe hn ?_
        refine qx77 _ _ _ ?_
        refine qx76 _ _ _ ?_
        refine qe75 _ _ ?_
        refine qn74 _ _ ?_
        obtain rfl := Option.some.inj h8
        refine EOk.done ?_
        exact ⟨⟨_, rfl⟩, [], trivial, ⟨⟨rfl, trivial⟩, ⟨rfl, trivial⟩, rfl, rfl⟩⟩
  rintro ⟨v6, hv_⟩
  replace hv_ := hv_.symm
  subst hv_
  refine qn45 _ _ ?_
  refine COk.seqQ fun Q84 qn84 qx84 qr84 => ?_
  refine gor hn ?_
  refine qn84 _ _ ?_
  refine got hn ?_
  obtain rfl := Option.some.inj h
  exact ⟨[(0, 205)], _, rfl, (by repeat (first | exact trivial | exact rfl | (refine And.intro ?_ ?_))), ⟨rfl, trivial⟩, rfl, rfl, rfl, rfl, rfl⟩

/- qcref1.Name -/
set_option maxRecDepth 100000 in
set_option maxHeartbeats 1000000 in
theorem qcref1_Name_ok (N : Nat) (a0 : ByteArray) (r : Bool) (h : qcref1_Name N a0 = some r) : Spec Try.prog 36 [] [.str a0] (.bool r) [] [] := by
  refine Spec.of tabOk Try.func36 rfl Try.ntmps36 (by kernel_rfl) rfl rfl rfl fun Γ hn => ?_
  unfold qcref1_Name at h
  refine COk.seqQ fun Q56 qn56 qx56 qr56 => ?_
  refine gor hn ?_
  refine qn56 _ _ ?_
  refine COk.seqQ fun Q57 qn57 qx57 qr57 => ?_
  refine COk.seqQ fun Q58 qn58 qx58 qr58 => ?_
  refine gor hn ?_
  intro hl1
  refine qn58 _ _ ?_
  refine COk.rng 5 rfl (fun hrn => ?_)
  obtain ⟨o3, h4, h⟩ := bindM h
  refine COk.joinR (ι := { s : Unit // o3 = Ctl.next s }) (fun s => [(0, .str a0)]) (fun s => []) (fun Q89 qn89 qx89 qr89 => ?_) (by intro s; rw [hn]; rfl) ?_
  · refine COk.blkQ fun Q90 qn90 qe90 qx90 qr90 => ?_
    refine COk.loopQ (ι := { q : (Nat × Nat) // q.1 = ((a0.size : Int) - (q.2 : Int)).toNat ∧ qcref1_Name_l1 N a0 q.1 q.2 = some o3 }) (fun q => [(0, .str a0), (5, .int (a0.size : Int)), (6, .int (q.1.2 : Int))]) (fun q => []) (fun q => q.1.1) ⟨(((a0.size : Int) - ((0 : Nat) : Int)).toNat, 0), rfl, h4⟩ [] ⟨⟨rfl, rfl, rfl, trivial⟩, trivial, rfl, rfl⟩ (by intro q; rw [hn]; rfl) ?_
    rintro ⟨⟨n_, k2⟩, hd6, h4⟩ Q91 qn91 qx91 qr91
    replace hd6 : n_ = ((a0.size : Int) - (k2 : Int)).toNat := hd6
    rcases n_ with _ | n7
    · have hlt10 := upNil hd6
      replace h4 := (qcref1_Name_l1.eq_1 _ _ _).symm.trans h4
      refine COk.seqQ fun Q92 qn92 qx92 qr92 => ?_
      refine gor hn ?_
      refine qn92 _ _ ?_
      refine COk.seqQ fun Q93 qn93 qx93 qr93 => ?_
      refine goc hn ?_
      refine bselF hlt10 ?_
      refine goe hn ?_
      refine qx93 _ _ _ ?_
      refine qx91 _ _ _ ?_
      refine qe90 _ _ ?_
      refine qn89 _ _ ?_
      obtain rfl := Option.some.inj h4
      refine EOk.done ?_
      exact ⟨⟨_, rfl⟩, [], trivial, ⟨⟨rfl, trivial⟩, trivial, rfl, rfl⟩⟩
    · obtain ⟨hd2, hlt10⟩ := upCons hd6
      replace h4 := (qcref1_Name_l1.eq_2 _ _ _ _).symm.trans h4
      refine COk.seqQ fun Q94 qn94 qx94 qr94 => ?_
      refine gor hn ?_
      refine qn94 _ _ ?_
      refine COk.seqQ fun Q95 qn95 qx95 qr95 => ?_
      refine goc hn ?_
      refine bselT hlt10 ?_
      refine gok hn ?_
      refine qn95 _ _ ?_
      refine COk.seqQ fun Q96 qn96 qx96 qr96 => ?_
      refine COk.blkQ fun Q103 qn103 qe103 qx103 qr103 => ?_
      refine COk.seqQ fun Q104 qn104 qx104 qr104 => ?_
      refine gor hn ?_
      refine qn104 _ _ ?_
      refine COk.seqQ fun Q105 qn105 qx105 qr105 => ?_
      obtain ⟨o13, h12, h4⟩ := bindM h4
      refine COk.joinR (ι := { s : Bool // o13 = s }) (fun s => [(0, .str a0), (5, .int (a0.size : Int)), (6, .int (k2 : Int)), (18, .bool s.1)]) (fun s => []) (fun Q106 qn106 qx106 qr106 => ?_) (by intro s; rw [hn]; rfl) ?_
      · refine gor hn ?_
        obtain ⟨u14, hx15, h12⟩ := bindM h12
        refine byM hx15 ?_
        refine And.intro rfl ?_
        refine bselM h12 (fun hb16 h12 => ?_) (fun hb16 h12 => ?_)
        · refine bselT hb16 ?_
          refine bselT hb16 ?_
          refine bselT hb16 ?_
          refine bselT hb16 ?_
          refine qn106 _ _ ?_
          obtain rfl := Option.some.inj h12
          refine EOk.done ?_
          exact ⟨⟨_, rfl⟩, [], trivial, ⟨⟨rfl, rfl, rfl, rfl, trivial⟩, trivial, rfl, rfl⟩⟩
        · refine bselF hb16 ?_
          refine bselF hb16 ?_
          obtain ⟨u17, hx18, h12⟩ := bindM h12
          refine byM hx18 ?_
          refine bselF hb16 ?_
          refine And.intro rfl ?_
          refine bselF hb16 ?_
          refine qn106 _ _ ?_
          obtain rfl := Option.some.inj h12
          refine EOk.done ?_
          exact ⟨⟨_, rfl⟩, [], trivial, ⟨⟨rfl, rfl, rfl, rfl, trivial⟩, trivial, rfl, rfl⟩⟩
      rintro ⟨v11, hv_⟩
      replace hv_ := hv_.symm
      subst hv_
      refine qn105 _ _ ?_
      refine goc hn ?_
      refine bselM h4 (fun hb19 h4 => ?_) (fun hb19 h4 => ?_)
      · refine COk.seqQ fun Q108 qn108 qx108 qr108 => ?_
        refine gor hn ?_
        refine qn108 _ _ ?_
        refine got hn ?_
        refine qr103 _ _ ?_
        refine qr96 _ _ ?_
        refine qr91 _ _ ?_
        refine qr90 _ _ ?_
        refine qr89 _ _ ?_
        refine qr57 _ _ ?_
        obtain rfl := Option.some.inj h4
        obtain rfl := Option.some.inj h
        exact ⟨[], _, rfl, (by repeat (first | exact trivial | exact rfl | (refine And.intro ?_ ?_))), trivial, rfl, rfl, rfl, rfl, rfl⟩
      · refine gok hn ?_
        refine qn103 _ _ ?_
        refine qn96 _ _ ?_
        refine gor hn ?_
        refine Or.inl (And.intro (inrU hlt10 hrn) ?_)
        refine qn91 _ _ ?_
        refine EOk.done ?_
        exact ⟨⟨(n7, k2 + 1), hd2, h4⟩, [], by show n7 < n7 + 1; omega, ⟨⟨rfl, rfl, rfl, trivial⟩, trivial, rfl, rfl⟩⟩
  rintro ⟨⟨⟩, rfl⟩
  refine qn57 _ _ ?_
  refine COk.seqQ fun Q109 qn109 qx109 qr109 => ?_
  obtain ⟨o22, h21, h⟩ := bindM h
  refine COk.joinR (ι := { s : Bool // o22 = s }) (fun s => [(2, .bool s.1)]) (fun s => []) (fun Q110 qn110 qx110 qr110 => ?_) (by intro s; rw [hn]; rfl) ?_
  · refine gor hn ?_
    intro hl23
    refine bselM h21 (fun hb24 h21 => ?_) (fun hb24 h21 => ?_)
    · refine bselT hb24 ?_
      intro hl25
      refine bselT hb24 ?_
      refine bselT hb24 ?_
      refine qn110 _ _ ?_
      obtain rfl := Option.some.inj h21
      refine EOk.done ?_
      exact ⟨⟨_, rfl⟩, [], trivial, ⟨⟨rfl, trivial⟩, trivial, rfl, rfl⟩⟩
    · refine bselF hb24 ?_
      refine bselF hb24 ?_
      refine bselF hb24 ?_
      refine qn110 _ _ ?_
      obtain rfl := Option.some.inj h21
      refine EOk.done ?_
      exact ⟨⟨_, rfl⟩, [], trivial, ⟨⟨rfl, trivial⟩, trivial, rfl, rfl⟩⟩
  rintro ⟨v20, hv_⟩
  replace hv_ := hv_.symm
  subst hv_
  refine qn109 _ _ ?_
  refine got hn ?_
  obtain rfl := Option.some.inj h
  exact ⟨[], _, rfl, (by repeat (first | exact trivial | exact rfl | (refine And.intro ?_ ?_))), trivial, rfl, rfl, rfl, rfl, rfl⟩

/- qcref1.Slots -/
set_option maxRecDepth 100000 in
set_option maxHeartbeats 1000000 in
theorem qcref1_Slots_ok (N : Nat) (a0 : Wd) (a1 : Int) (r : Int) (h : qcref1_Slots N a0 a1 = some r) : Spec Try.prog 38 [] [.agg (eWd a0), .int a1] (.int r) [] [] := by
  refine Spec.of tabOk Try.func38 rfl Try.ntmps38 (by kernel_rfl) rfl rfl rfl fun Γ hn => ?_
  unfold qcref1_Slots at h
  refine COk.seqQ fun Q39 qn39 qx39 qr39 => ?_
  refine gor hn ?_
  refine qn39 _ _ ?_
  refine COk.seqQ fun Q40 qn40 qx40 qr40 => ?_
  refine gor hn ?_
  refine qn40 _ _ ?_
  refine COk.seqQ fun Q41 qn41 qx41 qr41 => ?_
  refine COk.seqQ fun Q42 qn42 qx42 qr42 => ?_
  refine gor hn ?_
  obtain ⟨r1, hr2, h⟩ := bindM h
  show CallOk Try.prog _ _ _ _
  refine CallOk.as ((qcref1_Ups_ok N a0 a1 r1 hr2).sw 0 10) (by repeat (first | exact trivial | exact rfl | (refine And.intro ?_ ?_))) trivial rfl ?_
  refine lenM (fun hl3 => ?_)
  refine qn42 _ _ ?_
  obtain ⟨o8, h9, h⟩ := bindM h
  refine COk.joinR (ι := { s : Int // o8 = s }) (fun s => [(5, .int s.1)]) (fun s => []) (fun Q64 qn64 qx64 qr64 => ?_) (by intro s; rw [hn]; rfl) ?_
  · refine COk.blkQ fun Q65 qn65 qe65 qx65 qr65 => ?_
    refine COk.loopQ (ι := { q : ((List Int) × Nat × Int) // q.1 = r1.drop q.2.1 ∧ qcref1_Slots_l1 N a0 r1 q.1 q.2.1 q.2.2 = some o8 }) (fun q => [(2, .ptr 2 0), (5, .int q.1.2.2), (10, .own 10), (11, .int (r1.length : Int)), (12, .int (q.1.2.1 : Int))]) (fun q => [(2, .box (eWd a0) 26), (10, .row 1 (List.map eInt r1) 3)]) (fun q => q.1.1.length) ⟨(r1, 0, (0 : Int)), rfl, h9⟩ [] ⟨⟨rfl, rfl, rfl, rfl, rfl, trivial⟩, ⟨rfl, rfl, trivial⟩, rfl, rfl⟩ (by intro q; rw [hn]; rfl) ?_
    rintro ⟨⟨rest_, k4, v5⟩, hd11, h9⟩ Q66 qn66 qx66 qr66
    replace hd11 : rest_ = r1.drop k4 := hd11
    rcases rest_ with _ | ⟨x13, rest10⟩
    · have hlt15 := restNil hd11
      replace h9 := (qcref1_Slots_l1.eq_1 _ _ _ _ _).symm.trans h9
      refine COk.seqQ fun Q67 qn67 qx67 qr67 => ?_
      refine gor hn ?_
      refine qn67 _ _ ?_
      refine COk.seqQ fun Q68 qn68 qx68 qr68 => ?_
      refine goc hn ?_
      refine bselF hlt15 ?_
      refine goe hn ?_
      refine qx68 _ _ _ ?_
      refine qx66 _ _ _ ?_
      refine qe65 _ _ ?_
      refine qn64 _ _ ?_
      obtain rfl := Option.some.inj h9
      refine EOk.done ?_
      exact ⟨⟨_, rfl⟩, [], trivial, ⟨⟨rfl, trivial⟩, trivial, rfl, rfl⟩⟩
    · obtain ⟨hx14, hd2, hlt15⟩ := restCons hd11
      replace h9 := (qcref1_Slots_l1.eq_2 _ _ _ _ _ _ _).symm.trans h9
      refine COk.seqQ fun Q69 qn69 qx69 qr69 => ?_
      refine gor hn ?_
      refine qn69 _ _ ?_
      refine COk.seqQ fun Q70 qn70 qx70 qr70 => ?_
      refine goc hn ?_
      refine bselT hlt15 ?_
      refine gok hn ?_
      refine qn70 _ _ ?_
      refine COk.seqQ fun Q71 qn71 qx71 qr71 => ?_
      refine COk.blkQ fun Q74 qn74 qe74 qx74 qr74 => ?_
      refine COk.seqQ fun Q75 qn75 qx75 qr75 => ?_
      refine gor hn ?_
      obtain ⟨x16, hx17, h9⟩ := bindM h9
      refine ownM hx17 ?_
      refine ldM (nthO_some hx17).2 ?_
      refine qn75 _ _ ?_
      refine gor hn ?_
      obtain ⟨x18, hx19, h9⟩ := bindM h9
      refine idxM hx19 ?_
      refine Or.inr ?_
      refine qn74 _ _ ?_
      refine qn71 _ _ ?_
      refine COk.sub (ts2 := [(2, .ptr 2 0), (5, .int (wr (v5 + x18.slots))), (10, .own 10), (11, .int (r1.length : Int)), (12, .int (k4 : Int))]) (os2 := [(2, .box (eWd a0) 26), (10, .row 1 (List.map eInt r1) 3)]) [] ⟨⟨rfl, rfl, rfl, rfl, rfl, trivial⟩, ⟨rfl, rfl, trivial⟩, rfl, rfl⟩ (by rw [hn]; rfl) ?_
      refine gor hn ?_
      refine Or.inl (And.intro (inrK hx14 hl3) ?_)
      refine qn66 _ _ ?_
      refine EOk.done ?_
      exact ⟨⟨(rest10, k4 + 1, (wr (v5 + x18.slots))), hd2, h9⟩, [], by show rest10.length < rest10.length + 1; omega, ⟨⟨rfl, rfl, rfl, rfl, rfl, trivial⟩, ⟨rfl, rfl, trivial⟩, rfl, rfl⟩⟩
  rintro ⟨v7, hv_⟩
  replace hv_ := hv_.symm
  subst hv_
  refine qn41 _ _ ?_
  refine COk.seqQ fun Q76 qn76 qx76 qr76 => ?_
  refine gor hn ?_
  refine qn76 _ _ ?_
  refine got hn ?_
  obtain rfl := Option.some.inj h
  exact ⟨[], _, rfl, (by repeat (first | exact trivial | exact rfl | (refine And.intro ?_ ?_))), trivial, rfl, rfl, rfl, rfl, rfl⟩

/- qcref1.Numbers -/
set_option maxRecDepth 100000 in
set_option maxHeartbeats 1000000 in
theorem qcref1_Numbers_ok (N : Nat) (a0 : Wd) (a1 : Int) (a2 : Me) (a3 : Ins) (r : Int) (h : qcref1_Numbers N a0 a1 a2 a3 = some r) : Spec Try.prog 77 [] [.agg (eWd a0), .int a1, .agg (eMe a2), .agg (eIns a3)] (.int r) [] [] := by
  refine Spec.of tabOk Try.func77 rfl Try.ntmps77 (by kernel_rfl) rfl rfl rfl fun Γ hn => ?_
  unfold qcref1_Numbers at h
  refine COk.seqQ fun Q35150 qn35150 qx35150 qr35150 => ?_
  refine gor hn ?_
  refine qn35150 _ _ ?_
  refine COk.seqQ fun Q35151 qn35151 qx35151 qr35151 => ?_
  refine gor hn ?_
  refine qn35151 _ _ ?_
  refine COk.seqQ fun Q35152 qn35152 qx35152 qr35152 => ?_
  refine COk.seqQ fun Q35153 qn35153 qx35153 qr35153 => ?_
  refine gor hn ?_
  refine qn35153 _ _ ?_
  refine COk.blkQ fun Q52721 qn52721 qe52721 qx52721 qr52721 => ?_
  refine COk.seqQ fun Q52722 qn52722 qx52722 qr52722 => ?_
  refine COk.seqQ fun Q52723 qn52723 qx52723 qr52723 => ?_
  refine gor hn ?_
  refine qn52723 _ _ ?_
  obtain ⟨o3, h2, h⟩ := bindM h
  refine COk.joinR (ι := { s : Bool // o3 = s }) (fun s => [(1, .int a1), (4, .ptr 4 0), (6, .ptr 6 0), (7, .ptr 7 0), (9, .int (0 : Int)), (10, .int (0 : Int)), (12, .int a3.op), (13, .bool s.1)]) (fun s => [(4, .box (eWd a0) 26), (6, .box (eMe a2) 64), (7, .box (eIns a3) 62)]) (fun Q53208 qn53208 qx53208 qr53208 => ?_) (by intro s; rw [hn]; rfl) ?_
  · refine goc hn ?_
    refine bselM h2 (fun hb4 h2 => ?_) (fun hb4 h2 => ?_)
    · refine gok hn ?_
      refine qn53208 _ _ ?_
      obtain rfl := Option.some.inj h2
      refine EOk.done ?_
      exact ⟨⟨_, rfl⟩, [], trivial, ⟨⟨rfl, rfl, rfl, rfl, rfl, rfl, rfl, rfl, trivial⟩, ⟨rfl, rfl, rfl, trivial⟩, rfl, rfl⟩⟩
    · refine COk.seqQ fun Q53209 qn53209 qx53209 qr53209 => ?_
      refine gor hn ?_
      refine qn53209 _ _ ?_
      obtain ⟨o7, h6, h2⟩ := bindM h2
      refine COk.joinR (ι := { s : Bool // o7 = s }) (fun s => [(1, .int a1), (4, .ptr 4 0), (6, .ptr 6 0), (7, .ptr 7 0), (9, .int (0 : Int)), (10, .int (0 : Int)), (12, .int a3.op), (13, .bool s.1)]) (fun s => [(4, .box (eWd a0) 26), (6, .box (eMe a2) 64), (7, .box (eIns a3) 62)]) (fun Q53370 qn53370 qx53370 qr53370 => ?_) (by intro s; rw [hn]; rfl) ?_
      · refine goc hn ?_
        refine bselM h6 (fun hb8 h6 => ?_) (fun hb8 h6 => ?_)
        · refine gok hn ?_
          refine qn53370 _ _ ?_
          obtain rfl := Option.some.inj h6
          refine EOk.done ?_
          exact ⟨⟨_, rfl⟩, [], trivial, ⟨⟨rfl, rfl, rfl, rfl, rfl, rfl, rfl, rfl, trivial⟩, ⟨rfl, rfl, rfl, trivial⟩, rfl, rfl⟩⟩
        · refine COk.seqQ fun Q53371 qn53371 qx53371 qr53371 => ?_
          refine gor hn ?_
          refine qn53371 _ _ ?_
          obtain ⟨o11, h10, h6⟩ := bindM h6
          refine COk.joinR (ι := { s : Bool // o11 = s }) (fun s => [(1, .int a1), (4, .ptr 4 0), (6, .ptr 6 0), (7, .ptr 7 0), (9, .int (0 : Int)), (10, .int (0 : Int)), (12, .int a3.op), (13, .bool s.1)]) (fun s => [(4, .box (eWd a0) 26), (6, .box (eMe a2) 64), (7, .box (eIns a3) 62)]) (fun Q53424 qn53424 qx53424 qr53424 => ?_) (by intro s; rw [hn]; rfl) ?_
          · refine goc hn ?_
            refine bselM h10 (fun hb12 h10 => ?_) (fun hb12 h10 => ?_)
            · refine gok hn ?_
              refine qn53424 _ _ ?_
              obtain rfl := Option.some.inj h10
              refine EOk.done ?_
              exact ⟨⟨_, rfl⟩, [], trivial, ⟨⟨rfl, rfl, rfl, rfl, rfl, rfl, rfl, rfl, trivial⟩, ⟨rfl, rfl, rfl, trivial⟩, rfl, rfl⟩⟩
            · refine COk.seqQ fun Q53425 qn53425 qx53425 qr53425 => ?_
              refine gor hn ?_
              refine qn53425 _ _ ?_
              obtain ⟨o15, h14, h10⟩ := bindM h10
              refine COk.joinR (ι := { s : Bool // o15 = s }) (fun s => [(1, .int a1), (4, .ptr 4 0), (6, .ptr 6 0), (7, .ptr 7 0), (9, .int (0 : Int)), (10, .int (0 : Int)), (12, .int a3.op), (13, .bool s.1)]) (fun s => [(4, .box (eWd a0) 26), (6, .box (eMe a2) 64), (7, .box (eIns a3) 62)]) (fun Q53442 qn53442 qx53442 qr53442 => ?_) (by intro s; rw [hn]; rfl) ?_
              · refine goc hn ?_
                refine bselM h14 (fun hb16 h14 => ?_) (fun hb16 h14 => ?_)
                · refine gok hn ?_
                  refine qn53442 _ _ ?_
                  obtain rfl := Option.some.inj h14
                  refine EOk.done ?_
                  exact ⟨⟨_, rfl⟩, [], trivial, ⟨⟨rfl, rfl, rfl, rfl, rfl, rfl, rfl, rfl, trivial⟩, ⟨rfl, rfl, rfl, trivial⟩, rfl, rfl⟩⟩
                · refine COk.seqQ fun Q53443 qn53443 qx53443 qr53443 => ?_
                  refine COk.sub (ts2 := [(1, .int a1), (4, .ptr 4 0), (6, .ptr 6 0), (7, .ptr 7 0), (9, .int (0 : Int)), (10, .int (0 : Int)), (12, .int a3.op)]) (os2 := [(4, .box (eWd a0) 26), (6, .box (eMe a2) 64), (7, .box (eIns a3) 62)]) [] ⟨⟨rfl, rfl, rfl, rfl, rfl, rfl, rfl, trivial⟩, ⟨rfl, rfl, rfl, trivial⟩, rfl, rfl⟩ (by rw [hn]; rfl) ?_
                  refine gor hn ?_
                  refine qn53443 _ _ ?_
                  obtain ⟨o19, h18, h14⟩ := bindM h14
                  refine COk.joinR (ι := { s : Bool // o19 = s }) (fun s => [(1, .int a1), (4, .ptr 4 0), (6, .ptr 6 0), (7, .ptr 7 0), (9, .int (0 : Int)), (10, .int (0 : Int)), (12, .int a3.op), (13, .bool s.1)]) (fun s => [(4, .box (eWd a0) 26), (6, .box (eMe a2) 64), (7, .box (eIns a3) 62)]) (fun Q53448 qn53448 qx53448 qr53448 => ?_) (by intro s; rw [hn]; rfl) ?_
                  · refine goc hn ?_
                    refine bselM h18 (fun hb20 h18 => ?_) (fun hb20 h18 => ?_)
                    · refine gok hn ?_
                      refine qn53448 _ _ ?_
                      obtain rfl := Option.some.inj h18
                      refine EOk.done ?_
                      exact ⟨⟨_, rfl⟩, [], trivial, ⟨⟨rfl, rfl, rfl, rfl, rfl, rfl, rfl, rfl, trivial⟩, ⟨rfl, rfl, rfl, trivial⟩, rfl, rfl⟩⟩
                    · refine COk.seqQ fun Q53449 qn53449 qx53449 qr53449 => ?_
                      refine gor hn ?_
                      refine qn53449 _ _ ?_
                      obtain ⟨o23, h22, h18⟩ := bindM h18
                      refine COk.joinR (ι := { s : Bool // o23 = s }) (fun s => [(1, .int a1), (4, .ptr 4 0), (6, .ptr 6 0), (7, .ptr 7 0), (9, .int (0 : Int)), (10, .int (0 : Int)), (12, .int a3.op), (13, .bool s.1)]) (fun s => [(4, .box (eWd a0) 26), (6, .box (eMe a2) 64), (7, .box (eIns a3) 62)]) (fun Q53450 qn53450 qx53450 qr53450 => ?_) (by intro s; rw [hn]; rfl) ?_
                      · refine goc hn ?_
                        refine bselM h22 (fun hb24 h22 => ?_) (fun hb24 h22 => ?_)
                        · refine gok hn ?_
                          refine qn53450 _ _ ?_
                          obtain rfl := Option.some.inj h22
                          refine EOk.done ?_
                          exact ⟨⟨_, rfl⟩, [], trivial, ⟨⟨rfl, rfl, rfl, rfl, rfl, rfl, rfl, rfl, trivial⟩, ⟨rfl, rfl, rfl, trivial⟩, rfl, rfl⟩⟩
                        · refine gor hn ?_
                          refine qn53450 _ _ ?_
                          obtain rfl := Option.some.inj h22
                          refine EOk.done ?_
                          exact ⟨⟨_, rfl⟩, [], trivial, ⟨⟨rfl, rfl, rfl, rfl, rfl, rfl, rfl, rfl, trivial⟩, ⟨rfl, rfl, rfl, trivial⟩, rfl, rfl⟩⟩
                      rintro ⟨v21, hv_⟩
                      replace hv_ := hv_.symm
                      subst hv_
                      refine qn53448 _ _ ?_
                      obtain rfl := Option.some.inj h18
                      refine EOk.done ?_
                      exact ⟨⟨_, rfl⟩, [], trivial, ⟨⟨rfl, rfl, rfl, rfl, rfl, rfl, rfl, rfl, trivial⟩, ⟨rfl, rfl, rfl, trivial⟩, rfl, rfl⟩⟩
                  rintro ⟨v17, hv_⟩
                  replace hv_ := hv_.symm
                  subst hv_
                  refine qn53442 _ _ ?_
                  obtain rfl := Option.some.inj h14
                  refine EOk.done ?_
                  exact ⟨⟨_, rfl⟩, [], trivial, ⟨⟨rfl, rfl, rfl, rfl, rfl, rfl, rfl, rfl, trivial⟩, ⟨rfl, rfl, rfl, trivial⟩, rfl, rfl⟩⟩
              rintro ⟨v13, hv_⟩
              replace hv_ := hv_.symm
              subst hv_
              refine qn53424 _ _ ?_
              obtain rfl := Option.some.inj h10
              refine EOk.done ?_
              exact ⟨⟨_, rfl⟩, [], trivial, ⟨⟨rfl, rfl, rfl, rfl, rfl, rfl, rfl, rfl, trivial⟩, ⟨rfl, rfl, rfl, trivial⟩, rfl, rfl⟩⟩
          rintro ⟨v9, hv_⟩
          replace hv_ := hv_.symm
          subst hv_
          refine qn53370 _ _ ?_
          obtain rfl := Option.some.inj h6
          refine EOk.done ?_
          exact ⟨⟨_, rfl⟩, [], trivial, ⟨⟨rfl, rfl, rfl, rfl, rfl, rfl, rfl, rfl, trivial⟩, ⟨rfl, rfl, rfl, trivial⟩, rfl, rfl⟩⟩
      rintro ⟨v5, hv_⟩
      replace hv_ := hv_.symm
      subst hv_
      refine qn53208 _ _ ?_
      obtain rfl := Option.some.inj h2
      refine EOk.done ?_
      exact ⟨⟨_, rfl⟩, [], trivial, ⟨⟨rfl, rfl, rfl, rfl, rfl, rfl, rfl, rfl, trivial⟩, ⟨rfl, rfl, rfl, trivial⟩, rfl, rfl⟩⟩
  rintro ⟨v1, hv_⟩
  replace hv_ := hv_.symm
  subst hv_
  refine qn52722 _ _ ?_
  obtain ⟨o28, h27, h⟩ := bindM h
  refine COk.joinR (ι := { s : (Int × Int) // o28 = Ctl.next s }) (fun s => [(7, .ptr 7 0), (9, .int s.1.1), (10, .int s.1.2)]) (fun s => [(7, .box (eIns a3) 62)]) (fun Q64675 qn64675 qx64675 qr64675 => ?_) (by intro s; rw [hn]; rfl) ?_
  · refine goc hn ?_
    refine bselM h27 (fun hb29 h27 => ?_) (fun hb29 h27 => ?_)
    · refine gok hn ?_
      refine qn64675 _ _ ?_
      obtain rfl := Option.some.inj h27
      refine EOk.done ?_
      exact ⟨⟨_, rfl⟩, [], trivial, ⟨⟨rfl, rfl, rfl, trivial⟩, ⟨rfl, trivial⟩, rfl, rfl⟩⟩
    · refine COk.seqQ fun Q64676 qn64676 qx64676 qr64676 => ?_
      refine gor hn ?_
      refine qn64676 _ _ ?_
      obtain ⟨o33, h32, h27⟩ := bindM h27
      refine COk.joinR (ι := { s : (Int × Int) // o33 = Ctl.next s }) (fun s => [(7, .ptr 7 0), (9, .int s.1.1), (10, .int s.1.2)]) (fun s => [(7, .box (eIns a3) 62)]) (fun Q68417 qn68417 qx68417 qr68417 => ?_) (by intro s; rw [hn]; rfl) ?_
      · refine goc hn ?_
        refine bselM h32 (fun hb34 h32 => ?_) (fun hb34 h32 => ?_)
        · refine gor hn ?_
          refine Or.inr ?_
          refine qn68417 _ _ ?_
          obtain rfl := Option.some.inj h32
          refine EOk.done ?_
          exact ⟨⟨_, rfl⟩, [], trivial, ⟨⟨rfl, rfl, rfl, trivial⟩, ⟨rfl, trivial⟩, rfl, rfl⟩⟩
        · refine COk.seqQ fun Q68418 qn68418 qx68418 qr68418 => ?_
          refine COk.seqQ fun Q68419 qn68419 qx68419 qr68419 => ?_
          refine gor hn ?_
          refine qn68419 _ _ ?_
          obtain ⟨o37, h36, h32⟩ := bindM h32
          refine COk.joinR (ι := { s : Bool // o37 = s }) (fun s => [(1, .int a1), (4, .ptr 4 0), (6, .ptr 6 0), (7, .ptr 7 0), (9, .int (0 : Int)), (12, .int a3.op), (26, .bool s.1)]) (fun s => [(4, .box (eWd a0) 26), (6, .box (eMe a2) 64), (7, .box (eIns a3) 62)]) (fun Q68420 qn68420 qx68420 qr68420 => ?_) (by intro s; rw [hn]; rfl) ?_
          · refine goc hn ?_
            refine bselM h36 (fun hb38 h36 => ?_) (fun hb38 h36 => ?_)
            · refine gok hn ?_
              refine qn68420 _ _ ?_
              obtain rfl := Option.some.inj h36
              refine EOk.done ?_
              exact ⟨⟨_, rfl⟩, [], trivial, ⟨⟨rfl, rfl, rfl, rfl, rfl, rfl, rfl, trivial⟩, ⟨rfl, rfl, rfl, trivial⟩, rfl, rfl⟩⟩
            · refine gor hn ?_
              refine qn68420 _ _ ?_
              obtain rfl := Option.some.inj h36
              refine EOk.done ?_
              exact ⟨⟨_, rfl⟩, [], trivial, ⟨⟨rfl, rfl, rfl, rfl, rfl, rfl, rfl, trivial⟩, ⟨rfl, rfl, rfl, trivial⟩, rfl, rfl⟩⟩
          rintro ⟨v35, hv_⟩
          replace hv_ := hv_.symm
          subst hv_
          refine qn68418 _ _ ?_
          obtain ⟨o42, h41, h32⟩ := bindM h32
          refine COk.joinR (ι := { s : (Int × Int) // o42 = Ctl.next s }) (fun s => [(7, .ptr 7 0), (9, .int s.1.1), (10, .int s.1.2)]) (fun s => [(7, .box (eIns a3) 62)]) (fun Q69665 qn69665 qx69665 qr69665 => ?_) (by intro s; rw [hn]; rfl) ?_
          · refine goc hn ?_
            refine bselM h41 (fun hb43 h41 => ?_) (fun hb43 h41 => ?_)
            · refine gor hn ?_
              refine Or.inr ?_
              refine qn69665 _ _ ?_
              obtain rfl := Option.some.inj h41
              refine EOk.done ?_
              exact ⟨⟨_, rfl⟩, [], trivial, ⟨⟨rfl, rfl, rfl, trivial⟩, ⟨rfl, trivial⟩, rfl, rfl⟩⟩
            · refine COk.seqQ fun Q69666 qn69666 qx69666 qr69666 => ?_
              refine COk.seqQ fun Q69667 qn69667 qx69667 qr69667 => ?_
              refine gor hn ?_
              refine qn69667 _ _ ?_
              obtain ⟨o46, h45, h41⟩ := bindM h41
              refine COk.joinR (ι := { s : Bool // o46 = s }) (fun s => [(1, .int a1), (4, .ptr 4 0), (6, .ptr 6 0), (7, .ptr 7 0), (9, .int (0 : Int)), (12, .int a3.op), (32, .bool s.1)]) (fun s => [(4, .box (eWd a0) 26), (6, .box (eMe a2) 64), (7, .box (eIns a3) 62)]) (fun Q69668 qn69668 qx69668 qr69668 => ?_) (by intro s; rw [hn]; rfl) ?_
              · refine goc hn ?_
                refine bselM h45 (fun hb47 h45 => ?_) (fun hb47 h45 => ?_)
                · refine gok hn ?_
                  refine qn69668 _ _ ?_
                  obtain rfl := Option.some.inj h45
                  refine EOk.done ?_
                  exact ⟨⟨_, rfl⟩, [], trivial, ⟨⟨rfl, rfl, rfl, rfl, rfl, rfl, rfl, trivial⟩, ⟨rfl, rfl, rfl, trivial⟩, rfl, rfl⟩⟩
                · refine gor hn ?_
                  refine qn69668 _ _ ?_
                  obtain rfl := Option.some.inj h45
                  refine EOk.done ?_
                  exact ⟨⟨_, rfl⟩, [], trivial, ⟨⟨rfl, rfl, rfl, rfl, rfl, rfl, rfl, trivial⟩, ⟨rfl, rfl, rfl, trivial⟩, rfl, rfl⟩⟩
              rintro ⟨v44, hv_⟩
              replace hv_ := hv_.symm
              subst hv_
              refine qn69666 _ _ ?_
              obtain ⟨o51, h50, h41⟩ := bindM h41
              refine COk.joinR (ι := { s : (Int × Int) // o51 = Ctl.next s }) (fun s => [(7, .ptr 7 0), (9, .int s.1.1), (10, .int s.1.2)]) (fun s => [(7, .box (eIns a3) 62)]) (fun Q70081 qn70081 qx70081 qr70081 => ?_) (by intro s; rw [hn]; rfl) ?_
              · refine goc hn ?_
                refine bselM h50 (fun hb52 h50 => ?_) (fun hb52 h50 => ?_)
                · refine gor hn ?_
                  obtain ⟨r53, hr54, h50⟩ := bindM h50
                  show CallOk Try.prog _ _ _ _
                  refine CallOk.as (qcref1_Slots_ok N a0 a1 r53 hr54) (by repeat (first | exact trivial | exact rfl | (refine And.intro ?_ ?_))) trivial rfl ?_
                  refine Or.inr ?_
                  refine qn70081 _ _ ?_
                  obtain rfl := Option.some.inj h50
                  refine EOk.done ?_
                  exact ⟨⟨_, rfl⟩, [], trivial, ⟨⟨rfl, rfl, rfl, trivial⟩, ⟨rfl, trivial⟩, rfl, rfl⟩⟩
                · refine COk.seqQ fun Q70082 qn70082 qx70082 qr70082 => ?_
                  refine gor hn ?_
                  refine qn70082 _ _ ?_
                  obtain ⟨o58, h57, h50⟩ := bindM h50
                  refine COk.joinR (ι := { s : (Int × Int) // o58 = Ctl.next s }) (fun s => [(7, .ptr 7 0), (9, .int s.1.1), (10, .int s.1.2)]) (fun s => [(7, .box (eIns a3) 62)]) (fun Q70219 qn70219 qx70219 qr70219 => ?_) (by intro s; rw [hn]; rfl) ?_
                  · refine goc hn ?_
                    refine bselM h57 (fun hb59 h57 => ?_) (fun hb59 h57 => ?_)
                    · refine gor hn ?_
                      refine qn70219 _ _ ?_
                      obtain rfl := Option.some.inj h57
                      refine EOk.done ?_
                      exact ⟨⟨_, rfl⟩, [], trivial, ⟨⟨rfl, rfl, rfl, trivial⟩, ⟨rfl, trivial⟩, rfl, rfl⟩⟩
                    · refine COk.seqQ fun Q70220 qn70220 qx70220 qr70220 => ?_
                      refine gor hn ?_
                      refine qn70220 _ _ ?_
                      obtain ⟨o62, h61, h57⟩ := bindM h57
                      refine COk.joinR (ι := { s : Int // o62 = Ctl.next s }) (fun s => [(7, .ptr 7 0), (9, .int (0 : Int)), (10, .int s.1)]) (fun s => [(7, .box (eIns a3) 62)]) (fun Q70265 qn70265 qx70265 qr70265 => ?_) (by intro s; rw [hn]; rfl) ?_
                      · refine goc hn ?_
                        refine bselM h61 (fun hb63 h61 => ?_) (fun hb63 h61 => ?_)
                        · refine COk.seqQ fun Q70266 qn70266 qx70266 qr70266 => ?_
                          refine gor hn ?_
                          refine lenM (fun hl64 => ?_)
                          refine Or.inr ?_
                          refine qn70266 _ _ ?_
                          refine COk.seqQ fun Q70267 qn70267 qx70267 qr70267 => ?_
                          obtain ⟨o67, h66, h61⟩ := bindM h61
                          refine COk.joinR (ι := { s : Bool // o67 = s }) (fun s => [(7, .ptr 7 0), (9, .int (0 : Int)), (10, .int (wr ((a0.classes.length : Int) - (1 : Int)))), (54, .bool s.1)]) (fun s => [(7, .box (eIns a3) 62)]) (fun Q70268 qn70268 qx70268 qr70268 => ?_) (by intro s; rw [hn]; rfl) ?_
                          · refine gor hn ?_
                            refine bselM h66 (fun hb68 h66 => ?_) (fun hb68 h66 => ?_)
                            · refine bselT hb68 ?_
                              refine bselT hb68 ?_
                              refine bselT hb68 ?_
                              refine qn70268 _ _ ?_
                              obtain rfl := Option.some.inj h66
                              refine EOk.done ?_
                              exact ⟨⟨_, rfl⟩, [], trivial, ⟨⟨rfl, rfl, rfl, rfl, trivial⟩, ⟨rfl, trivial⟩, rfl, rfl⟩⟩
                            · refine bselF hb68 ?_
                              refine bselF hb68 ?_
                              refine bselF hb68 ?_
                              refine qn70268 _ _ ?_
                              obtain rfl := Option.some.inj h66
                              refine EOk.done ?_
                              exact ⟨⟨_, rfl⟩, [], trivial, ⟨⟨rfl, rfl, rfl, rfl, trivial⟩, ⟨rfl, trivial⟩, rfl, rfl⟩⟩
                          rintro ⟨v65, hv_⟩
                          replace hv_ := hv_.symm
                          subst hv_
                          refine qn70267 _ _ ?_
                          refine goc hn ?_
                          refine bselM h61 (fun hb69 h61 => ?_) (fun hb69 h61 => ?_)
                          · refine COk.seqQ fun Q70270 qn70270 qx70270 qr70270 => ?_
                            refine gor hn ?_
                            refine qn70270 _ _ ?_
                            refine got hn ?_
                            refine qr70265 _ _ ?_
                            refine qr70219 _ _ ?_
                            refine qr70081 _ _ ?_
                            refine qr69665 _ _ ?_
                            refine qr68417 _ _ ?_
                            refine qr64675 _ _ ?_
                            refine qr52721 _ _ ?_
                            refine qr35152 _ _ ?_
                            obtain rfl := Option.some.inj h61
                            obtain rfl := Option.some.inj h57
                            obtain rfl := Option.some.inj h50
                            obtain rfl := Option.some.inj h41
                            obtain rfl := Option.some.inj h32
                            obtain rfl := Option.some.inj h27
                            obtain rfl := Option.some.inj h
                            exact ⟨[], _, rfl, (by repeat (first | exact trivial | exact rfl | (refine And.intro ?_ ?_))), trivial, rfl, rfl, rfl, rfl, rfl⟩
                          · refine gok hn ?_
                            refine qn70265 _ _ ?_
                            obtain rfl := Option.some.inj h61
                            refine EOk.done ?_
                            exact ⟨⟨_, rfl⟩, [], trivial, ⟨⟨rfl, rfl, rfl, trivial⟩, ⟨rfl, trivial⟩, rfl, rfl⟩⟩
                        · refine COk.seqQ fun Q70271 qn70271 qx70271 qr70271 => ?_
                          refine gor hn ?_
                          refine qn70271 _ _ ?_
                          obtain ⟨o72, h71, h61⟩ := bindM h61
                          refine COk.joinR (ι := { s : Int // o72 = Ctl.next s }) (fun s => [(7, .ptr 7 0), (9, .int (0 : Int)), (10, .int s.1)]) (fun s => [(7, .box (eIns a3) 62)]) (fun Q70282 qn70282 qx70282 qr70282 => ?_) (by intro s; rw [hn]; rfl) ?_
                          · refine goc hn ?_
                            refine bselM h71 (fun hb73 h71 => ?_) (fun hb73 h71 => ?_)
                            · refine gor hn ?_
                              refine qn70282 _ _ ?_
                              obtain rfl := Option.some.inj h71
                              refine EOk.done ?_
                              exact ⟨⟨_, rfl⟩, [], trivial, ⟨⟨rfl, rfl, rfl, trivial⟩, ⟨rfl, trivial⟩, rfl, rfl⟩⟩
                            · refine COk.seqQ fun Q70283 qn70283 qx70283 qr70283 => ?_
                              refine COk.seqQ fun Q70284 qn70284 qx70284 qr70284 => ?_
                              refine gor hn ?_
                              refine qn70284 _ _ ?_
                              obtain ⟨o76, h75, h71⟩ := bindM h71
                              refine COk.joinR (ι := { s : Bool // o76 = s }) (fun s => [(6, .ptr 6 0), (7, .ptr 7 0), (9, .int (0 : Int)), (57, .bool s.1)]) (fun s => [(6, .box (eMe a2) 64), (7, .box (eIns a3) 62)]) (fun Q70285 qn70285 qx70285 qr70285 => ?_) (by intro s; rw [hn]; rfl) ?_
                              · refine goc hn ?_
                                refine bselM h75 (fun hb77 h75 => ?_) (fun hb77 h75 => ?_)
                                · refine gok hn ?_
                                  refine qn70285 _ _ ?_
                                  obtain rfl := Option.some.inj h75
                                  refine EOk.done ?_
                                  exact ⟨⟨_, rfl⟩, [], trivial, ⟨⟨rfl, rfl, rfl, rfl, trivial⟩, ⟨rfl, rfl, trivial⟩, rfl, rfl⟩⟩
                                · refine gor hn ?_
                                  refine qn70285 _ _ ?_
                                  obtain rfl := Option.some.inj h75
                                  refine EOk.done ?_
                                  exact ⟨⟨_, rfl⟩, [], trivial, ⟨⟨rfl, rfl, rfl, rfl, trivial⟩, ⟨rfl, rfl, trivial⟩, rfl, rfl⟩⟩
                              rintro ⟨v74, hv_⟩
                              replace hv_ := hv_.symm
                              subst hv_
                              refine qn70283 _ _ ?_
                              refine goc hn ?_
                              refine bselM h71 (fun hb78 h71 => ?_) (fun hb78 h71 => ?_)
                              · refine gor hn ?_
                                refine lenM (fun hl79 => ?_)
                                refine Or.inr ?_
                                refine qn70282 _ _ ?_
                                obtain rfl := Option.some.inj h71
                                refine EOk.done ?_
                                exact ⟨⟨_, rfl⟩, [], trivial, ⟨⟨rfl, rfl, rfl, trivial⟩, ⟨rfl, trivial⟩, rfl, rfl⟩⟩
                              · refine COk.seqQ fun Q70287 qn70287 qx70287 qr70287 => ?_
                                refine gor hn ?_
                                refine qn70287 _ _ ?_
                                refine got hn ?_
                                refine qr70282 _ _ ?_
                                refine qr70265 _ _ ?_
                                refine qr70219 _ _ ?_
                                refine qr70081 _ _ ?_
                                refine qr69665 _ _ ?_
                                refine qr68417 _ _ ?_
                                refine qr64675 _ _ ?_
                                refine qr52721 _ _ ?_
                                refine qr35152 _ _ ?_
                                obtain rfl := Option.some.inj h71
                                obtain rfl := Option.some.inj h61
                                obtain rfl := Option.some.inj h57
                                obtain rfl := Option.some.inj h50
                                obtain rfl := Option.some.inj h41
                                obtain rfl := Option.some.inj h32
                                obtain rfl := Option.some.inj h27
                                obtain rfl := Option.some.inj h
                                exact ⟨[], _, rfl, (by repeat (first | exact trivial | exact rfl | (refine And.intro ?_ ?_))), trivial, rfl, rfl, rfl, rfl, rfl⟩
                          rintro ⟨v70, rfl⟩
                          refine qn70265 _ _ ?_
                          obtain rfl := Option.some.inj h61
                          refine EOk.done ?_
                          exact ⟨⟨_, rfl⟩, [], trivial, ⟨⟨rfl, rfl, rfl, trivial⟩, ⟨rfl, trivial⟩, rfl, rfl⟩⟩
                      rintro ⟨v60, rfl⟩
                      refine qn70219 _ _ ?_
                      obtain rfl := Option.some.inj h57
                      refine EOk.done ?_
                      exact ⟨⟨_, rfl⟩, [], trivial, ⟨⟨rfl, rfl, rfl, trivial⟩, ⟨rfl, trivial⟩, rfl, rfl⟩⟩
                  rintro ⟨⟨v55, v56⟩, rfl⟩
                  refine qn70081 _ _ ?_
                  obtain rfl := Option.some.inj h50
                  refine EOk.done ?_
                  exact ⟨⟨_, rfl⟩, [], trivial, ⟨⟨rfl, rfl, rfl, trivial⟩, ⟨rfl, trivial⟩, rfl, rfl⟩⟩
              rintro ⟨⟨v48, v49⟩, rfl⟩
              refine qn69665 _ _ ?_
              obtain rfl := Option.some.inj h41
              refine EOk.done ?_
              exact ⟨⟨_, rfl⟩, [], trivial, ⟨⟨rfl, rfl, rfl, trivial⟩, ⟨rfl, trivial⟩, rfl, rfl⟩⟩
          rintro ⟨⟨v39, v40⟩, rfl⟩
          refine qn68417 _ _ ?_
          obtain rfl := Option.some.inj h32
          refine EOk.done ?_
          exact ⟨⟨_, rfl⟩, [], trivial, ⟨⟨rfl, rfl, rfl, trivial⟩, ⟨rfl, trivial⟩, rfl, rfl⟩⟩
      rintro ⟨⟨v30, v31⟩, rfl⟩
      refine qn64675 _ _ ?_
      obtain rfl := Option.some.inj h27
      refine EOk.done ?_
      exact ⟨⟨_, rfl⟩, [], trivial, ⟨⟨rfl, rfl, rfl, trivial⟩, ⟨rfl, trivial⟩, rfl, rfl⟩⟩
  rintro ⟨⟨v25, v26⟩, rfl⟩
  refine qn52721 _ _ ?_
  refine qn35152 _ _ ?_
  refine COk.seqQ fun Q70288 qn70288 qx70288 qr70288 => ?_
  refine COk.seqQ fun Q70289 qn70289 qx70289 qr70289 => ?_
  obtain ⟨o82, h81, h⟩ := bindM h
  refine COk.joinR (ι := { s : Bool // o82 = s }) (fun s => [(7, .ptr 7 0), (73, .bool s.1)]) (fun s => [(7, .box (eIns a3) 62)]) (fun Q70290 qn70290 qx70290 qr70290 => ?_) (by intro s; rw [hn]; rfl) ?_
  · refine gor hn ?_
    refine bselM h81 (fun hb83 h81 => ?_) (fun hb83 h81 => ?_)
    · refine bselT hb83 ?_
      refine bselT hb83 ?_
      refine bselT hb83 ?_
      refine bselT hb83 ?_
      refine qn70290 _ _ ?_
      obtain rfl := Option.some.inj h81
      refine EOk.done ?_
      exact ⟨⟨_, rfl⟩, [], trivial, ⟨⟨rfl, rfl, trivial⟩, ⟨rfl, trivial⟩, rfl, rfl⟩⟩
    · refine bselF hb83 ?_
      refine bselF hb83 ?_
      refine bselF hb83 ?_
      refine bselF hb83 ?_
      refine qn70290 _ _ ?_
      obtain rfl := Option.some.inj h81
      refine EOk.done ?_
      exact ⟨⟨_, rfl⟩, [], trivial, ⟨⟨rfl, rfl, trivial⟩, ⟨rfl, trivial⟩, rfl, rfl⟩⟩
  rintro ⟨v80, hv_⟩
  replace hv_ := hv_.symm
  subst hv_
  refine qn70289 _ _ ?_
  refine goc hn ?_
  refine bselM h (fun hb84 h => ?_) (fun hb84 h => ?_)
  · refine COk.seqQ fun Q70292 qn70292 qx70292 qr70292 => ?_
    refine gor hn ?_
    refine qn70292 _ _ ?_
    refine got hn ?_
    refine qr70288 _ _ ?_
    obtain rfl := Option.some.inj h
    exact ⟨[], _, rfl, (by repeat (first | exact trivial | exact rfl | (refine And.intro ?_ ?_))), trivial, rfl, rfl, rfl, rfl, rfl⟩
  · refine gok hn ?_
    refine qn70288 _ _ ?_
    refine COk.seqQ fun Q70293 qn70293 qx70293 qr70293 => ?_
    refine COk.seqQ fun Q70294 qn70294 qx70294 qr70294 => ?_
    obtain ⟨o87, h86, h⟩ := bindM h
    refine COk.joinR (ι := { s : Bool // o87 = s }) (fun s => [(102, .bool s.1)]) (fun s => []) (fun Q70295 qn70295 qx70295 qr70295 => ?_) (by intro s; rw [hn]; rfl) ?_
    · refine gor hn ?_
      refine bselM h86 (fun hb88 h86 => ?_) (fun hb88 h86 => ?_)
      · refine bselT hb88 ?_
        refine bselT hb88 ?_
        obtain ⟨r89, hr90, h86⟩ := bindM h86
        show CallOk Try.prog _ _ _ _
        refine CallOk.as (qcref1_Name_ok N a3.name r89 hr90) (by repeat (first | exact trivial | exact rfl | (refine And.intro ?_ ?_))) trivial rfl ?_
        refine bselT hb88 ?_
        refine bselT hb88 ?_
        refine bselM h86 (fun hb91 h86 => ?_) (fun hb91 h86 => ?_)
        · refine bselT hb91 ?_
          refine bselT hb91 ?_
          refine bselT hb91 ?_
          refine bselT hb91 ?_
          refine bselT hb91 ?_
          refine qn70295 _ _ ?_
          obtain rfl := Option.some.inj h86
          refine EOk.done ?_
          exact ⟨⟨_, rfl⟩, [], trivial, ⟨⟨rfl, trivial⟩, trivial, rfl, rfl⟩⟩
        · refine bselF hb91 ?_
          refine bselF hb91 ?_
          refine bselF hb91 ?_
          refine bselM h86 (fun hb92 h86 => ?_) (fun hb92 h86 => ?_)
          · refine bselT hb92 ?_
            refine bselT hb92 ?_
            refine bselF hb91 ?_
            refine bselT hb92 ?_
            refine bselF hb91 ?_
            refine bselM h86 (fun hb93 h86 => ?_) (fun hb93 h86 => ?_)
            · refine bselT hb93 ?_
              refine bselT hb93 ?_
              refine bselT hb93 ?_
              refine qn70295 _ _ ?_
              obtain rfl := Option.some.inj h86
              refine EOk.done ?_
              exact ⟨⟨_, rfl⟩, [], trivial, ⟨⟨rfl, trivial⟩, trivial, rfl, rfl⟩⟩
            · refine bselF hb93 ?_
              refine bselF hb93 ?_
              refine bselF hb93 ?_
              refine bselM h86 (fun hb94 h86 => ?_) (fun hb94 h86 => ?_)
              · refine bselT hb94 ?_
                refine bselT hb94 ?_
                refine bselT hb94 ?_
                refine qn70295 _ _ ?_
                obtain rfl := Option.some.inj h86
                refine EOk.done ?_
                exact ⟨⟨_, rfl⟩, [], trivial, ⟨⟨rfl, trivial⟩, trivial, rfl, rfl⟩⟩
              · refine bselF hb94 ?_
                refine bselF hb94 ?_
                refine bselF hb94 ?_
                refine qn70295 _ _ ?_
                obtain rfl := Option.some.inj h86
                refine EOk.done ?_
                exact ⟨⟨_, rfl⟩, [], trivial, ⟨⟨rfl, trivial⟩, trivial, rfl, rfl⟩⟩
          · refine bselF hb92 ?_
            refine bselF hb92 ?_
            refine bselF hb91 ?_
            refine bselF hb92 ?_
            refine bselF hb91 ?_
            refine bselM h86 (fun hb95 h86 => ?_) (fun hb95 h86 => ?_)
            · refine bselT hb95 ?_
              refine bselT hb95 ?_
              refine bselT hb95 ?_
              refine qn70295 _ _ ?_
              obtain rfl := Option.some.inj h86
              refine EOk.done ?_
              exact ⟨⟨_, rfl⟩, [], trivial, ⟨⟨rfl, trivial⟩, trivial, rfl, rfl⟩⟩
            · refine bselF hb95 ?_
              refine bselF hb95 ?_
              refine bselF hb95 ?_
              refine qn70295 _ _ ?_
              obtain rfl := Option.some.inj h86
              refine EOk.done ?_
              exact ⟨⟨_, rfl⟩, [], trivial, ⟨⟨rfl, trivial⟩, trivial, rfl, rfl⟩⟩
      · refine bselF hb88 ?_
        refine bselF hb88 ?_
        refine bselF hb88 ?_
        refine bselF hb88 ?_
        refine bselM h86 (fun hb96 h86 => ?_) (fun hb96 h86 => ?_)
        · refine bselT hb96 ?_
          refine bselT hb96 ?_
          refine bselT hb96 ?_
          refine bselM h86 (fun hb97 h86 => ?_) (fun hb97 h86 => ?_)
          · refine bselT hb97 ?_
            refine bselT hb97 ?_
            refine bselT hb97 ?_
            refine qn70295 _ _ ?_
            obtain rfl := Option.some.inj h86
            refine EOk.done ?_
            exact ⟨⟨_, rfl⟩, [], trivial, ⟨⟨rfl, trivial⟩, trivial, rfl, rfl⟩⟩
          · refine bselF hb97 ?_
            refine bselF hb97 ?_
            refine bselF hb97 ?_
            refine bselM h86 (fun hb98 h86 => ?_) (fun hb98 h86 => ?_)
            · refine bselT hb98 ?_
              refine bselT hb98 ?_
              refine bselT hb98 ?_
              refine qn70295 _ _ ?_
              obtain rfl := Option.some.inj h86
              refine EOk.done ?_
              exact ⟨⟨_, rfl⟩, [], trivial, ⟨⟨rfl, trivial⟩, trivial, rfl, rfl⟩⟩
            · refine bselF hb98 ?_
              refine bselF hb98 ?_
              refine bselF hb98 ?_
              refine qn70295 _ _ ?_
              obtain rfl := Option.some.inj h86
              refine EOk.done ?_
              exact ⟨⟨_, rfl⟩, [], trivial, ⟨⟨rfl, trivial⟩, trivial, rfl, rfl⟩⟩
        · refine bselF hb96 ?_
          refine bselF hb96 ?_
          refine bselF hb96 ?_
          refine bselM h86 (fun hb99 h86 => ?_) (fun hb99 h86 => ?_)
          · refine bselT hb99 ?_
            refine bselT hb99 ?_
            refine bselT hb99 ?_
            refine qn70295 _ _ ?_
            obtain rfl := Option.some.inj h86
            refine EOk.done ?_
            exact ⟨⟨_, rfl⟩, [], trivial, ⟨⟨rfl, trivial⟩, trivial, rfl, rfl⟩⟩
          · refine bselF hb99 ?_
            refine bselF hb99 ?_
            refine bselF hb99 ?_
            refine qn70295 _ _ ?_
            obtain rfl := Option.some.inj h86
            refine EOk.done ?_
            exact ⟨⟨_, rfl⟩, [], trivial, ⟨⟨rfl, trivial⟩, trivial, rfl, rfl⟩⟩
    rintro ⟨v85, hv_⟩
    replace hv_ := hv_.symm
    subst hv_
    refine qn70294 _ _ ?_
    refine goc hn ?_
    refine bselM h (fun hb100 h => ?_) (fun hb100 h => ?_)
    · refine COk.seqQ fun Q70297 qn70297 qx70297 qr70297 => ?_
      refine gor hn ?_
      refine qn70297 _ _ ?_
      refine got hn ?_
      refine qr70293 _ _ ?_
      obtain rfl := Option.some.inj h
      exact ⟨[], _, rfl, (by repeat (first | exact trivial | exact rfl | (refine And.intro ?_ ?_))), trivial, rfl, rfl, rfl, rfl, rfl⟩
    · refine gok hn ?_
      refine qn70293 _ _ ?_
      refine COk.seqQ fun Q70298 qn70298 qx70298 qr70298 => ?_
      refine gor hn ?_
      refine qn70298 _ _ ?_
      refine got hn ?_
      obtain rfl := Option.some.inj h
      exact ⟨[], _, rfl, (by repeat (first | exact trivial | exact rfl | (refine And.intro ?_ ?_))), trivial, rfl, rfl, rfl, rfl, rfl⟩
end Go.Proofs.Ytoceeiamcfdnlaa
