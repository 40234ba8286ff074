/- Walks after the mirrors. Printed by mir.py. -/
import Derived.Test.YtoceeiamcfdnlaaMir
import Derived.Test.YtoceeiamcfdnlaaYnew
namespace Go.Proofs.Ytoceeiamcfdnlaa
open Go.RowKit
set_option linter.unusedVariables false
/- slices.BinarySearchFunc[[]api.Method,api.Method,string] -/
set_option maxRecDepth 100000 in
set_option maxHeartbeats 1000000 in
theorem slices_BinarySearchFunc_api_Method_api_Method_string_ok (N : Nat) (a0 : (List Me)) (a1 : ByteArray) (g2 : Me → ByteArray → Option Int) {K2 : Nat} (hg2 : ∀ x0_ x1_ y_, g2 x0_ x1_ = some y_ → Spec Try.prog K2 [] [.agg (eMe x0_), .str x1_] (.int y_) [] []) (r : (Int × Bool)) (h : slices_BinarySearchFunc_api_Method_api_Method_string N a0 a1 g2 = some r) : Spec Try.prog 69 [] [.sl 5 (List.map eMe a0), .str a1, .fn K2 []] (.tup [.int r.1, .bool r.2]) [] [] := by
  refine Spec.of tabOk Try.func69 rfl Try.ntmps69 (by kernel_rfl) rfl rfl rfl fun Γ hn => ?_
  unfold slices_BinarySearchFunc_api_Method_api_Method_string at h
  refine COk.seqQ fun Q50 qn50 qx50 qr50 => ?_
  refine gor hn ?_
  refine qn50 _ _ ?_
  refine COk.seqQ fun Q51 qn51 qx51 qr51 => ?_
  refine gor hn ?_
  refine lenM (fun hl1 => ?_)
  refine qn51 _ _ ?_
  refine COk.seqQ fun Q52 qn52 qx52 qr52 => ?_
  refine gor hn ?_
  refine qn52 _ _ ?_
  refine COk.seqQ fun Q53 qn53 qx53 qr53 => ?_
  obtain ⟨o8, h9, h⟩ := bindM h
  refine COk.joinR (ι := { s : Int // o8 = s }) (fun s => [(0, .sl 5 (List.map eMe a0)), (1, .str a1), (2, .fn K2 []), (8, .int (a0.length : Int)), (9, .int s.1)]) (fun s => []) (fun Q84 qn84 qx84 qr84 => ?_) (by intro s; rw [hn]; rfl) ?_
  · refine COk.blkQ fun Q85 qn85 qe85 qx85 qr85 => ?_
    refine COk.loopQ (ι := { q : (Nat × Int × Int) // slices_BinarySearchFunc_api_Method_api_Method_string_l1 N a0 a1 g2 q.1 q.2.1 q.2.2 = some o8 }) (fun q => [(0, .sl 5 (List.map eMe a0)), (1, .str a1), (2, .fn K2 []), (8, .int (a0.length : Int)), (9, .int q.1.2.1), (10, .int q.1.2.2)]) (fun q => []) (fun q => q.1.1) ⟨(N, (0 : Int), (a0.length : Int)), h9⟩ [] ⟨⟨(by repeat (first | exact trivial | exact rfl | (refine And.intro ?_ ?_))), rfl, rfl, rfl, rfl, rfl, trivial⟩, trivial, rfl, rfl⟩ (by intro q; rw [hn]; rfl) ?_
    rintro ⟨⟨n_, v3, v4⟩, h9⟩ Q86 qn86 qx86 qr86
    rcases n_ with _ | n12
    · rw [slices_BinarySearchFunc_api_Method_api_Method_string_l1.eq_1] at h9
      cases h9
    · replace h9 := (slices_BinarySearchFunc_api_Method_api_Method_string_l1.eq_2 _ _ _ _ _ _ _).symm.trans h9
      refine COk.seqQ fun Q87 qn87 qx87 qr87 => ?_
      refine COk.seqQ fun Q88 qn88 qx88 qr88 => ?_
      refine gor hn ?_
      refine qn88 _ _ ?_
      refine goc hn ?_
      refine bselM h9 (fun hb13 h9 => ?_) (fun hb13 h9 => ?_)
      · refine gok hn ?_
        refine qn87 _ _ ?_
        refine COk.blkQ fun Q93 qn93 qe93 qx93 qr93 => ?_
        refine COk.seqQ fun Q94 qn94 qx94 qr94 => ?_
        refine gor hn ?_
        refine Or.inr ?_
        obtain ⟨hg14, h9⟩ := guardM h9
        refine decM hg14 ?_
        refine And.intro rfl ?_
        refine And.intro rfl ?_
        obtain ⟨hg15, h9⟩ := guardM h9
        refine decM hg15 ?_
        refine qn94 _ _ ?_
        refine COk.seqQ fun Q95 qn95 qx95 qr95 => ?_
        refine gor hn ?_
        obtain ⟨x16, hx17, h9⟩ := bindM h9
        refine idxM hx17 ?_
        obtain ⟨r18, hr19, h9⟩ := bindM h9
        show CallOk Try.prog _ _ _ _
        refine CallOk.as (hg2 _ _ _ hr19) (by repeat (first | exact trivial | exact rfl | (refine And.intro ?_ ?_))) trivial rfl ?_
        refine qn95 _ _ ?_
        obtain ⟨o23, h22, h9⟩ := bindM h9
        refine COk.joinR (ι := { s : (Int × Int) // o23 = s }) (fun s => [(0, .sl 5 (List.map eMe a0)), (1, .str a1), (2, .fn K2 []), (8, .int (a0.length : Int)), (9, .int s.1.1), (10, .int s.1.2)]) (fun s => []) (fun Q96 qn96 qx96 qr96 => ?_) (by intro s; rw [hn]; rfl) ?_
        · refine goc hn ?_
          refine bselM h22 (fun hb24 h22 => ?_) (fun hb24 h22 => ?_)
          · refine COk.sub (ts2 := [(0, .sl 5 (List.map eMe a0)), (1, .str a1), (2, .fn K2 []), (8, .int (a0.length : Int)), (10, .int v4), (11, .int ((wr (v3 + v4)) / 2))]) (os2 := []) [] ⟨⟨(by repeat (first | exact trivial | exact rfl | (refine And.intro ?_ ?_))), rfl, rfl, rfl, rfl, rfl, trivial⟩, trivial, rfl, rfl⟩ (by rw [hn]; rfl) ?_
            refine gor hn ?_
            refine Or.inr ?_
            refine qn96 _ _ ?_
            obtain rfl := Option.some.inj h22
            refine EOk.done ?_
            exact ⟨⟨_, rfl⟩, [], trivial, ⟨⟨(by repeat (first | exact trivial | exact rfl | (refine And.intro ?_ ?_))), rfl, rfl, rfl, rfl, rfl, trivial⟩, trivial, rfl, rfl⟩⟩
          · refine COk.sub (ts2 := [(0, .sl 5 (List.map eMe a0)), (1, .str a1), (2, .fn K2 []), (8, .int (a0.length : Int)), (9, .int v3), (11, .int ((wr (v3 + v4)) / 2))]) (os2 := []) [] ⟨⟨(by repeat (first | exact trivial | exact rfl | (refine And.intro ?_ ?_))), rfl, rfl, rfl, rfl, rfl, trivial⟩, trivial, rfl, rfl⟩ (by rw [hn]; rfl) ?_
            refine gor hn ?_
            refine qn96 _ _ ?_
            obtain rfl := Option.some.inj h22
            refine EOk.done ?_
            exact ⟨⟨_, rfl⟩, [], trivial, ⟨⟨(by repeat (first | exact trivial | exact rfl | (refine And.intro ?_ ?_))), rfl, rfl, rfl, rfl, rfl, trivial⟩, trivial, rfl, rfl⟩⟩
        rintro ⟨⟨v20, v21⟩, rfl⟩
        refine qn93 _ _ ?_
        refine qn86 _ _ ?_
        refine EOk.done ?_
        exact ⟨⟨(n12, v20, v21), h9⟩, [], by show n12 < n12 + 1; omega, ⟨⟨(by repeat (first | exact trivial | exact rfl | (refine And.intro ?_ ?_))), rfl, rfl, rfl, rfl, rfl, trivial⟩, trivial, rfl, rfl⟩⟩
      · refine goe hn ?_
        refine qx87 _ _ _ ?_
        refine qx86 _ _ _ ?_
        refine qe85 _ _ ?_
        refine qn84 _ _ ?_
        obtain rfl := Option.some.inj h9
        refine EOk.done ?_
        exact ⟨⟨_, rfl⟩, [], trivial, ⟨⟨(by repeat (first | exact trivial | exact rfl | (refine And.intro ?_ ?_))), rfl, rfl, rfl, rfl, trivial⟩, trivial, rfl, rfl⟩⟩
  rintro ⟨v7, hv_⟩
  replace hv_ := hv_.symm
  subst hv_
  refine qn53 _ _ ?_
  refine COk.seqQ fun Q97 qn97 qx97 qr97 => ?_
  obtain ⟨o27, h26, h⟩ := bindM h
  refine COk.joinR (ι := { s : Bool // o27 = s }) (fun s => [(6, .int v7), (7, .bool s.1)]) (fun s => []) (fun Q98 qn98 qx98 qr98 => ?_) (by intro s; rw [hn]; rfl) ?_
  · refine gor hn ?_
    refine bselM h26 (fun hb28 h26 => ?_) (fun hb28 h26 => ?_)
    · refine bselT hb28 ?_
      refine bselT hb28 ?_
      refine bselT hb28 ?_
      obtain ⟨x29, hx30, h26⟩ := bindM h26
      refine idxM hx30 ?_
      refine bselT hb28 ?_
      refine bselT hb28 ?_
      refine bselT hb28 ?_
      obtain ⟨r31, hr32, h26⟩ := bindM h26
      show CallOk Try.prog _ _ _ _
      refine CallOk.as (hg2 _ _ _ hr32) (by repeat (first | exact trivial | exact rfl | (refine And.intro ?_ ?_))) trivial rfl ?_
      refine bselT hb28 ?_
      refine bselT hb28 ?_
      refine qn98 _ _ ?_
      obtain rfl := Option.some.inj h26
      refine EOk.done ?_
      exact ⟨⟨_, rfl⟩, [], trivial, ⟨⟨rfl, rfl, trivial⟩, trivial, rfl, rfl⟩⟩
    · refine bselF hb28 ?_
      refine bselF hb28 ?_
      refine bselF hb28 ?_
      refine bselF hb28 ?_
      refine bselF hb28 ?_
      refine bselF hb28 ?_
      refine bselF hb28 ?_
      refine bselF hb28 ?_
      refine qn98 _ _ ?_
      obtain rfl := Option.some.inj h26
      refine EOk.done ?_
      exact ⟨⟨_, rfl⟩, [], trivial, ⟨⟨rfl, rfl, trivial⟩, trivial, rfl, rfl⟩⟩
  rintro ⟨v25, hv_⟩
  replace hv_ := hv_.symm
  subst hv_
  refine qn97 _ _ ?_
  refine got hn ?_
  obtain rfl := Option.some.inj h
  exact ⟨[], _, rfl, (by repeat (first | exact trivial | exact rfl | (refine And.intro ?_ ?_))), trivial, rfl, rfl, rfl, rfl, rfl⟩

/- cmp.isNaN[string] -/
set_option maxRecDepth 100000 in
set_option maxHeartbeats 1000000 in
theorem cmp_isNaN_string_ok (N : Nat) (a0 : ByteArray) (r : Bool) (h : cmp_isNaN_string N a0 = some r) : Spec Try.prog 106 [] [.str a0] (.bool r) [] [] := by
  refine Spec.of tabOk Try.func106 rfl Try.ntmps106 (by kernel_rfl) rfl rfl rfl fun Γ hn => ?_
  unfold cmp_isNaN_string at h
  refine COk.seqQ fun Q3 qn3 qx3 qr3 => ?_
  refine gor hn ?_
  refine qn3 _ _ ?_
  refine COk.seqQ fun Q4 qn4 qx4 qr4 => ?_
  refine gor hn ?_
  refine qn4 _ _ ?_
  refine got hn ?_
  obtain rfl := Option.some.inj h
  exact ⟨[], _, rfl, (by repeat (first | exact trivial | exact rfl | (refine And.intro ?_ ?_))), trivial, rfl, rfl, rfl, rfl, rfl⟩

/- cmp.Compare[string] -/
set_option maxRecDepth 100000 in
set_option maxHeartbeats 1000000 in
theorem cmp_Compare_string_ok (N : Nat) (a0 : ByteArray) (a1 : ByteArray) (r : Int) (h : cmp_Compare_string N a0 a1 = some r) : Spec Try.prog 86 [] [.str a0, .str a1] (.int r) [] [] := by
  refine Spec.of tabOk Try.func86 rfl Try.ntmps86 (by kernel_rfl) rfl rfl rfl fun Γ hn => ?_
  unfold cmp_Compare_string at h
  refine COk.seqQ fun Q28 qn28 qx28 qr28 => ?_
  refine gor hn ?_
  refine qn28 _ _ ?_
  refine COk.seqQ fun Q29 qn29 qx29 qr29 => ?_
  refine gor hn ?_
  obtain ⟨r1, hr2, h⟩ := bindM h
  show CallOk Try.prog _ _ _ _
  refine CallOk.as (cmp_isNaN_string_ok N a0 r1 hr2) (by repeat (first | exact trivial | exact rfl | (refine And.intro ?_ ?_))) trivial rfl ?_
  refine qn29 _ _ ?_
  refine COk.seqQ fun Q30 qn30 qx30 qr30 => ?_
  refine gor hn ?_
  obtain ⟨r3, hr4, h⟩ := bindM h
  show CallOk Try.prog _ _ _ _
  refine CallOk.as (cmp_isNaN_string_ok N a1 r3 hr4) (by repeat (first | exact trivial | exact rfl | (refine And.intro ?_ ?_))) trivial rfl ?_
  refine qn30 _ _ ?_
  refine COk.seqQ fun Q31 qn31 qx31 qr31 => ?_
  refine COk.seqQ fun Q32 qn32 qx32 qr32 => ?_
  refine gor hn ?_
  refine qn32 _ _ ?_
  refine goc hn ?_
  refine bselM h (fun hb5 h => ?_) (fun hb5 h => ?_)
  · refine COk.seqQ fun Q38 qn38 qx38 qr38 => ?_
    refine COk.seqQ fun Q39 qn39 qx39 qr39 => ?_
    refine gor hn ?_
    refine qn39 _ _ ?_
    refine goc hn ?_
    refine bselM h (fun hb6 h => ?_) (fun hb6 h => ?_)
    · refine COk.seqQ fun Q40 qn40 qx40 qr40 => ?_
      refine gor hn ?_
      refine qn40 _ _ ?_
      refine got hn ?_
      refine qr38 _ _ ?_
      refine qr31 _ _ ?_
      obtain rfl := Option.some.inj h
      exact ⟨[], _, rfl, (by repeat (first | exact trivial | exact rfl | (refine And.intro ?_ ?_))), trivial, rfl, rfl, rfl, rfl, rfl⟩
    · refine gok hn ?_
      refine qn38 _ _ ?_
      refine COk.seqQ fun Q41 qn41 qx41 qr41 => ?_
      refine gor hn ?_
      refine qn41 _ _ ?_
      refine got hn ?_
      refine qr31 _ _ ?_
      obtain rfl := Option.some.inj h
      exact ⟨[], _, rfl, (by repeat (first | exact trivial | exact rfl | (refine And.intro ?_ ?_))), trivial, rfl, rfl, rfl, rfl, rfl⟩
  · refine gok hn ?_
    refine qn31 _ _ ?_
    refine COk.seqQ fun Q42 qn42 qx42 qr42 => ?_
    refine COk.seqQ fun Q43 qn43 qx43 qr43 => ?_
    refine gor hn ?_
    refine qn43 _ _ ?_
    refine goc hn ?_
    refine bselM h (fun hb7 h => ?_) (fun hb7 h => ?_)
    · refine COk.seqQ fun Q45 qn45 qx45 qr45 => ?_
      refine gor hn ?_
      refine qn45 _ _ ?_
      refine got hn ?_
      refine qr42 _ _ ?_
      obtain rfl := Option.some.inj h
      exact ⟨[], _, rfl, (by repeat (first | exact trivial | exact rfl | (refine And.intro ?_ ?_))), trivial, rfl, rfl, rfl, rfl, rfl⟩
    · refine gok hn ?_
      refine qn42 _ _ ?_
      refine COk.seqQ fun Q46 qn46 qx46 qr46 => ?_
      refine COk.seqQ fun Q47 qn47 qx47 qr47 => ?_
      refine gor hn ?_
      refine qn47 _ _ ?_
      refine goc hn ?_
      refine bselM h (fun hb8 h => ?_) (fun hb8 h => ?_)
      · refine COk.seqQ fun Q49 qn49 qx49 qr49 => ?_
        refine gor hn ?_
        refine qn49 _ _ ?_
        refine got hn ?_
        refine qr46 _ _ ?_
        obtain rfl := Option.some.inj h
        exact ⟨[], _, rfl, (by repeat (first | exact trivial | exact rfl | (refine And.intro ?_ ?_))), trivial, rfl, rfl, rfl, rfl, rfl⟩
      · refine gok hn ?_
        refine qn46 _ _ ?_
        refine COk.seqQ fun Q50 qn50 qx50 qr50 => ?_
        refine COk.seqQ fun Q51 qn51 qx51 qr51 => ?_
        refine gor hn ?_
        refine qn51 _ _ ?_
        refine goc hn ?_
        refine bselM h (fun hb9 h => ?_) (fun hb9 h => ?_)
        · refine COk.seqQ fun Q53 qn53 qx53 qr53 => ?_
          refine COk.sub (ts2 := []) (os2 := []) [] ⟨trivial, trivial, rfl, rfl⟩ (by rw [hn]; rfl) ?_
          refine gor hn ?_
          refine qn53 _ _ ?_
          refine got hn ?_
          refine qr50 _ _ ?_
          obtain rfl := Option.some.inj h
          exact ⟨[], _, rfl, (by repeat (first | exact trivial | exact rfl | (refine And.intro ?_ ?_))), trivial, rfl, rfl, rfl, rfl, rfl⟩
        · refine gok hn ?_
          refine qn50 _ _ ?_
          refine COk.seqQ fun Q54 qn54 qx54 qr54 => ?_
          refine COk.sub (ts2 := []) (os2 := []) [] ⟨trivial, trivial, rfl, rfl⟩ (by rw [hn]; rfl) ?_
          refine gor hn ?_
          refine qn54 _ _ ?_
          refine got hn ?_
          obtain rfl := Option.some.inj h
          exact ⟨[], _, rfl, (by repeat (first | exact trivial | exact rfl | (refine And.intro ?_ ?_))), trivial, rfl, rfl, rfl, rfl, rfl⟩

/- class.order -/
set_option maxRecDepth 100000 in
set_option maxHeartbeats 1000000 in
theorem class_order_ok (N : Nat) (a0 : Me) (a1 : ByteArray) (r : Int) (h : class_order N a0 a1 = some r) : Spec Try.prog 67 [] [.agg (eMe a0), .str a1] (.int r) [] [] := by
  refine Spec.of tabOk Try.func67 rfl Try.ntmps67 (by kernel_rfl) rfl rfl rfl fun Γ hn => ?_
  unfold class_order at h
  refine COk.seqQ fun Q3 qn3 qx3 qr3 => ?_
  refine gor hn ?_
  refine qn3 _ _ ?_
  refine COk.seqQ fun Q4 qn4 qx4 qr4 => ?_
  refine gor hn ?_
  obtain ⟨r1, hr2, h⟩ := bindM h
  show CallOk Try.prog _ _ _ _
  refine CallOk.as (cmp_Compare_string_ok N a0.name a1 r1 hr2) (by repeat (first | exact trivial | exact rfl | (refine And.intro ?_ ?_))) trivial rfl ?_
  refine qn4 _ _ ?_
  refine got hn ?_
  obtain rfl := Option.some.inj h
  exact ⟨[], _, rfl, (by repeat (first | exact trivial | exact rfl | (refine And.intro ?_ ?_))), trivial, rfl, rfl, rfl, rfl, rfl⟩

/- class.Find -/
set_option maxRecDepth 100000 in
set_option maxHeartbeats 1000000 in
theorem class_Find_ok (N : Nat) (a0 : Wd) (a1 : Int) (a2 : ByteArray) (r : (Int × Int)) (h : class_Find N a0 a1 a2 = some r) : Spec Try.prog 39 [] [.agg (eWd a0), .int a1, .str a2] (.tup [.int r.1, .int r.2]) [] [] := by
  refine Spec.of tabOk Try.func39 rfl Try.ntmps39 (by kernel_rfl) rfl rfl rfl fun Γ hn => ?_
  unfold class_Find at h
  refine COk.seqQ fun Q68 qn68 qx68 qr68 => ?_
  refine gor hn ?_
  refine qn68 _ _ ?_
  refine COk.seqQ fun Q69 qn69 qx69 qr69 => ?_
  refine COk.seqQ fun Q70 qn70 qx70 qr70 => ?_
  refine gor hn ?_
  refine qn70 _ _ ?_
  obtain ⟨o6, h7, h⟩ := bindM h
  refine COk.joinR (ι := { s : Unit // o6 = Ctl.next s }) (fun s => []) (fun s => []) (fun Q116 qn116 qx116 qr116 => ?_) (by intro s; rw [hn]; rfl) ?_
  · refine COk.blkQ fun Q117 qn117 qe117 qx117 qr117 => ?_
    refine COk.loopQ (ι := { q : (Nat × Int × Int) // class_Find_l1 N a0 a2 q.1 q.2.1 q.2.2 = some o6 }) (fun q => [(1, .int q.1.2.1), (2, .str a2), (3, .ptr 3 0), (8, .int q.1.2.2)]) (fun q => [(3, .box (eWd a0) 26)]) (fun q => q.1.1) ⟨(N, a1, (0 : Int)), h7⟩ [] ⟨⟨rfl, rfl, rfl, rfl, trivial⟩, ⟨rfl, trivial⟩, rfl, rfl⟩ (by intro q; rw [hn]; rfl) ?_
    rintro ⟨⟨n_, v2, v3⟩, h7⟩ Q118 qn118 qx118 qr118
    rcases n_ with _ | n10
    · rw [class_Find_l1.eq_1] at h7
      cases h7
    · replace h7 := (class_Find_l1.eq_2 _ _ _ _ _ _).symm.trans h7
      refine COk.seqQ fun Q119 qn119 qx119 qr119 => ?_
      refine COk.seqQ fun Q120 qn120 qx120 qr120 => ?_
      obtain ⟨o13, h12, h7⟩ := bindM h7
      refine COk.joinR (ι := { s : Bool // o13 = s }) (fun s => [(1, .int v2), (2, .str a2), (3, .ptr 3 0), (8, .int v3), (26, .bool s.1)]) (fun s => [(3, .box (eWd a0) 26)]) (fun Q121 qn121 qx121 qr121 => ?_) (by intro s; rw [hn]; rfl) ?_
      · refine gor hn ?_
        refine bselM h12 (fun hb14 h12 => ?_) (fun hb14 h12 => ?_)
        · refine bselT hb14 ?_
          refine bselT hb14 ?_
          refine bselT hb14 ?_
          refine lenM (fun hl15 => ?_)
          refine bselT hb14 ?_
          refine bselT hb14 ?_
          refine bselM h12 (fun hb16 h12 => ?_) (fun hb16 h12 => ?_)
          · refine bselT hb16 ?_
            refine bselT hb16 ?_
            refine bselT hb16 ?_
            refine lenM (fun hl17 => ?_)
            refine bselT hb16 ?_
            refine bselT hb16 ?_
            refine qn121 _ _ ?_
            obtain rfl := Option.some.inj h12
            refine EOk.done ?_
            exact ⟨⟨_, rfl⟩, [], trivial, ⟨⟨rfl, rfl, rfl, rfl, rfl, trivial⟩, ⟨rfl, trivial⟩, rfl, rfl⟩⟩
          · refine bselF hb16 ?_
            refine bselF hb16 ?_
            refine bselF hb16 ?_
            refine bselF hb16 ?_
            refine bselF hb16 ?_
            refine qn121 _ _ ?_
            obtain rfl := Option.some.inj h12
            refine EOk.done ?_
            exact ⟨⟨_, rfl⟩, [], trivial, ⟨⟨rfl, rfl, rfl, rfl, rfl, trivial⟩, ⟨rfl, trivial⟩, rfl, rfl⟩⟩
        · refine bselF hb14 ?_
          refine bselF hb14 ?_
          refine bselF hb14 ?_
          refine bselF hb14 ?_
          refine bselF hb14 ?_
          refine qn121 _ _ ?_
          obtain rfl := Option.some.inj h12
          refine EOk.done ?_
          exact ⟨⟨_, rfl⟩, [], trivial, ⟨⟨rfl, rfl, rfl, rfl, rfl, trivial⟩, ⟨rfl, trivial⟩, rfl, rfl⟩⟩
      rintro ⟨v11, hv_⟩
      replace hv_ := hv_.symm
      subst hv_
      refine qn120 _ _ ?_
      refine goc hn ?_
      refine bselM h7 (fun hb18 h7 => ?_) (fun hb18 h7 => ?_)
      · refine gok hn ?_
        refine qn119 _ _ ?_
        refine COk.seqQ fun Q122 qn122 qx122 qr122 => ?_
        refine COk.blkQ fun Q129 qn129 qe129 qx129 qr129 => ?_
        refine COk.seqQ fun Q130 qn130 qx130 qr130 => ?_
        refine COk.seqQ fun Q131 qn131 qx131 qr131 => ?_
        refine gor hn ?_
        obtain ⟨x19, hx20, h7⟩ := bindM h7
        refine idxM hx20 ?_
        obtain ⟨r21, hr22, h7⟩ := bindM h7
        show CallOk Try.prog _ _ _ _
        refine CallOk.as (slices_BinarySearchFunc_api_Method_api_Method_string_ok N x19.methods a2 (fun x0_ x1_ => class_order N x0_ x1_) (fun x0_ x1_ y_ hy_ => class_order_ok N x0_ x1_ y_ hy_) r21 hr22) (by repeat (first | exact trivial | exact rfl | (refine And.intro ?_ ?_))) trivial rfl ?_
        refine qn131 _ _ ?_
        refine COk.seqQ fun Q132 qn132 qx132 qr132 => ?_
        refine COk.sub (ts2 := [(1, .int v2), (2, .str a2), (3, .ptr 3 0), (8, .int v3), (9, .int r21.1), (10, .bool r21.2)]) (os2 := [(3, .box (eWd a0) 26)]) [] ⟨⟨rfl, rfl, rfl, rfl, rfl, rfl, trivial⟩, ⟨rfl, trivial⟩, rfl, rfl⟩ (by rw [hn]; rfl) ?_
        refine gor hn ?_
        refine qn132 _ _ ?_
        refine goc hn ?_
        refine bselM h7 (fun hb23 h7 => ?_) (fun hb23 h7 => ?_)
        · refine COk.seqQ fun Q133 qn133 qx133 qr133 => ?_
          refine gor hn ?_
          refine qn133 _ _ ?_
          refine got hn ?_
          refine qr130 _ _ ?_
          refine qr129 _ _ ?_
          refine qr122 _ _ ?_
          refine qr118 _ _ ?_
          refine qr117 _ _ ?_
          refine qr116 _ _ ?_
          refine qr69 _ _ ?_
          obtain rfl := Option.some.inj h7
          obtain rfl := Option.some.inj h
          exact ⟨[], _, rfl, (by repeat (first | exact trivial | exact rfl | (refine And.intro ?_ ?_))), trivial, rfl, rfl, rfl, rfl, rfl⟩
        · refine gok hn ?_
          refine qn130 _ _ ?_
          refine gor hn ?_
          obtain ⟨x24, hx25, h7⟩ := bindM h7
          refine idxM hx25 ?_
          refine qn129 _ _ ?_
          refine qn122 _ _ ?_
          refine gor hn ?_
          refine Or.inr ?_
          refine qn118 _ _ ?_
          refine EOk.done ?_
          exact ⟨⟨(n10, x24.super, (wr (v3 + (1 : Int)))), h7⟩, [], by show n10 < n10 + 1; omega, ⟨⟨rfl, rfl, rfl, rfl, trivial⟩, ⟨rfl, trivial⟩, rfl, rfl⟩⟩
      · refine goe hn ?_
        refine qx119 _ _ _ ?_
        refine qx118 _ _ _ ?_
        refine qe117 _ _ ?_
        refine qn116 _ _ ?_
        obtain rfl := Option.some.inj h7
        refine EOk.done ?_
        exact ⟨⟨_, rfl⟩, [], trivial, ⟨trivial, trivial, rfl, rfl⟩⟩
  rintro ⟨⟨⟩, rfl⟩
  refine qn69 _ _ ?_
  refine COk.seqQ fun Q134 qn134 qx134 qr134 => ?_
  refine gor hn ?_
  refine qn134 _ _ ?_
  refine got hn ?_
  obtain rfl := Option.some.inj h
  exact ⟨[], _, rfl, (by repeat (first | exact trivial | exact rfl | (refine And.intro ?_ ?_))), trivial, rfl, rfl, rfl, rfl, rfl⟩

/- qcref1.Ups -/
set_option maxRecDepth 100000 in
set_option maxHeartbeats 1000000 in
theorem qcref1_Ups_ok (N : Nat) (a0 : Wd) (a1 : Int) (r : (List Int)) (h : qcref1_Ups N a0 a1 = some r) : Spec Try.prog 53 [] [.agg (eWd a0), .int a1] (.own 0) [(0, .row 1 (List.map eInt r) 3)] [0] := by
  refine Spec.of tabOk Try.func53 rfl Try.ntmps53 (by kernel_rfl) rfl rfl rfl fun Γ hn => ?_
  unfold qcref1_Ups at h
  refine COk.seqQ fun Q43 qn43 qx43 qr43 => ?_
  refine gor hn ?_
  refine qn43 _ _ ?_
  refine COk.seqQ fun Q44 qn44 qx44 qr44 => ?_
  refine gor hn ?_
  refine qn44 _ _ ?_
  refine COk.seqQ fun Q45 qn45 qx45 qr45 => ?_
  refine COk.nilrow 5 205 1 3 rfl rfl rfl ?_
  obtain ⟨o7, h8, h⟩ := bindM h
  refine COk.joinR (ι := { s : (List Int) // o7 = s }) (fun s => [(5, .own 205)]) (fun s => [(205, .row 1 (List.map eInt s.1) 3)]) (fun Q74 qn74 qx74 qr74 => ?_) (by intro s; rw [hn]; rfl) ?_
  · refine COk.blkQ fun Q75 qn75 qe75 qx75 qr75 => ?_
    refine COk.loopQ (ι := { q : (Nat × Int × (List Int)) // qcref1_Ups_l1 N a0 q.1 q.2.1 q.2.2 = some o7 }) (fun q => [(1, .int q.1.2.1), (2, .ptr 2 0), (5, .own 205)]) (fun q => [(2, .box (eWd a0) 26), (205, .row 1 (List.map eInt q.1.2.2) 3)]) (fun q => q.1.1) ⟨(N, a1, ([] : List Int)), h8⟩ [] ⟨⟨rfl, rfl, rfl, trivial⟩, ⟨rfl, rfl, trivial⟩, rfl, rfl⟩ (by intro q; rw [hn]; rfl) ?_
    rintro ⟨⟨n_, v2, v3⟩, h8⟩ Q76 qn76 qx76 qr76
    rcases n_ with _ | n11
    · rw [qcref1_Ups_l1.eq_1] at h8
      cases h8
    · replace h8 := (qcref1_Ups_l1.eq_2 _ _ _ _ _).symm.trans h8
      refine COk.seqQ fun Q77 qn77 qx77 qr77 => ?_
      refine COk.seqQ fun Q78 qn78 qx78 qr78 => ?_
      obtain ⟨o14, h13, h8⟩ := bindM h8
      refine COk.joinR (ι := { s : Bool // o14 = s }) (fun s => [(1, .int v2), (2, .ptr 2 0), (5, .own 205), (22, .bool s.1)]) (fun s => [(2, .box (eWd a0) 26), (205, .row 1 (List.map eInt v3) 3)]) (fun Q79 qn79 qx79 qr79 => ?_) (by intro s; rw [hn]; rfl) ?_
      · refine gor hn ?_
        refine bselM h13 (fun hb15 h13 => ?_) (fun hb15 h13 => ?_)
        · refine bselT hb15 ?_
          refine bselT hb15 ?_
          refine bselT hb15 ?_
          refine lenM (fun hl16 => ?_)
          refine bselT hb15 ?_
          refine bselT hb15 ?_
          refine bselM h13 (fun hb17 h13 => ?_) (fun hb17 h13 => ?_)
          · refine bselT hb17 ?_
            refine lenM (fun hl18 => ?_)
            refine bselT hb17 ?_
            refine bselT hb17 ?_
            refine bselT hb17 ?_
            refine lenM (fun hl19 => ?_)
            refine bselT hb17 ?_
            refine bselT hb17 ?_
            refine qn79 _ _ ?_
            obtain rfl := Option.some.inj h13
            refine EOk.done ?_
            exact ⟨⟨_, rfl⟩, [], trivial, ⟨⟨rfl, rfl, rfl, rfl, trivial⟩, ⟨rfl, rfl, trivial⟩, rfl, rfl⟩⟩
          · refine bselF hb17 ?_
            refine bselF hb17 ?_
            refine bselF hb17 ?_
            refine bselF hb17 ?_
            refine bselF hb17 ?_
            refine bselF hb17 ?_
            refine qn79 _ _ ?_
            obtain rfl := Option.some.inj h13
            refine EOk.done ?_
            exact ⟨⟨_, rfl⟩, [], trivial, ⟨⟨rfl, rfl, rfl, rfl, trivial⟩, ⟨rfl, rfl, trivial⟩, rfl, rfl⟩⟩
        · refine bselF hb15 ?_
          refine bselF hb15 ?_
          refine bselF hb15 ?_
          refine bselF hb15 ?_
          refine bselF hb15 ?_
          refine qn79 _ _ ?_
          obtain rfl := Option.some.inj h13
          refine EOk.done ?_
          exact ⟨⟨_, rfl⟩, [], trivial, ⟨⟨rfl, rfl, rfl, rfl, trivial⟩, ⟨rfl, rfl, trivial⟩, rfl, rfl⟩⟩
      rintro ⟨v12, hv_⟩
      replace hv_ := hv_.symm
      subst hv_
      refine qn78 _ _ ?_
      refine goc hn ?_
      refine bselM h8 (fun hb20 h8 => ?_) (fun hb20 h8 => ?_)
      · refine gok hn ?_
        refine qn77 _ _ ?_
        refine COk.blkQ fun Q82 qn82 qe82 qx82 qr82 => ?_
        refine COk.seqQ fun Q83 qn83 qx83 qr83 => ?_
        refine gor hn ?_
        refine Exists.intro (List.map eInt [v2]) (And.intro (by repeat (first | exact trivial | exact rfl | (refine And.intro ?_ ?_))) ?_)
        obtain ⟨hg21, h8⟩ := guardM h8
        refine appM (l2 := [v2]) hg21 (leLs_refl _) ?_
        refine qn83 _ _ ?_
        refine gor hn ?_
        obtain ⟨x22, hx23, h8⟩ := bindM h8
        refine idxM hx23 ?_
        refine qn82 _ _ ?_
        refine qn76 _ _ ?_
        refine EOk.done ?_
        exact ⟨⟨(n11, x22.super, (v3 ++ [v2])), h8⟩, [(205, 26)], by show n11 < n11 + 1; omega, ⟨⟨rfl, rfl, rfl, trivial⟩, ⟨rfl, rfl, trivial⟩, rfl, rfl⟩⟩
      · refine goe hn ?_
        refine qx77 _ _ _ ?_
        refine qx76 _ _ _ ?_
        refine qe75 _ _ ?_
        refine qn74 _ _ ?_
        obtain rfl := Option.some.inj h8
        refine EOk.done ?_
        exact ⟨⟨_, rfl⟩, [], trivial, ⟨⟨rfl, trivial⟩, ⟨rfl, trivial⟩, rfl, rfl⟩⟩
  rintro ⟨v6, hv_⟩
  replace hv_ := hv_.symm
  subst hv_
  refine qn45 _ _ ?_
  refine COk.seqQ fun Q84 qn84 qx84 qr84 => ?_
  refine gor hn ?_
  refine qn84 _ _ ?_
  refine got hn ?_
  obtain rfl := Option.some.inj h
  exact ⟨[(0, 205)], _, rfl, (by repeat (first | exact trivial | exact rfl | (refine And.intro ?_ ?_))), ⟨rfl, trivial⟩, rfl, rfl, rfl, rfl, rfl⟩

/- qcref1.Find -/
set_option maxRecDepth 100000 in
set_option maxHeartbeats 1000000 in
theorem qcref1_Find_ok (N : Nat) (a0 : Wd) (a1 : Int) (a2 : ByteArray) (r : (Int × Int)) (h : qcref1_Find N a0 a1 a2 = some r) : Spec Try.prog 21 [] [.agg (eWd a0), .int a1, .str a2] (.tup [.int r.1, .int r.2]) [] [] := by
  refine Spec.of tabOk Try.func21 rfl Try.ntmps21 (by kernel_rfl) rfl rfl rfl fun Γ hn => ?_
  unfold qcref1_Find at h
  refine COk.seqQ fun Q184 qn184 qx184 qr184 => ?_
  refine gor hn ?_
  refine qn184 _ _ ?_
  refine COk.seqQ fun Q185 qn185 qx185 qr185 => ?_
  refine COk.seqQ fun Q186 qn186 qx186 qr186 => ?_
  refine gor hn ?_
  obtain ⟨r1, hr2, h⟩ := bindM h
  show CallOk Try.prog _ _ _ _
  refine CallOk.as ((qcref1_Ups_ok N a0 a1 r1 hr2).sw 0 14) (by repeat (first | exact trivial | exact rfl | (refine And.intro ?_ ?_))) trivial rfl ?_
  refine lenM (fun hl3 => ?_)
  refine qn186 _ _ ?_
  obtain ⟨o5, h6, h⟩ := bindM h
  refine COk.joinR (ι := { s : Unit // o5 = Ctl.next s }) (fun s => []) (fun s => []) (fun Q290 qn290 qx290 qr290 => ?_) (by intro s; rw [hn]; rfl) ?_
  · refine COk.blkQ fun Q291 qn291 qe291 qx291 qr291 => ?_
    refine COk.loopQ (ι := { q : ((List Int) × Nat) // q.1 = r1.drop q.2 ∧ qcref1_Find_l1 N a0 a2 r1 q.1 q.2 = some o5 }) (fun q => [(2, .str a2), (3, .ptr 3 0), (14, .own 14), (15, .int (r1.length : Int)), (16, .int (q.1.2 : Int))]) (fun q => [(3, .box (eWd a0) 26), (14, .row 1 (List.map eInt r1) 3)]) (fun q => q.1.1.length) ⟨(r1, 0), rfl, h6⟩ [] ⟨⟨rfl, rfl, rfl, rfl, rfl, trivial⟩, ⟨rfl, rfl, trivial⟩, rfl, rfl⟩ (by intro q; rw [hn]; rfl) ?_
    rintro ⟨⟨rest_, k4⟩, hd8, h6⟩ Q292 qn292 qx292 qr292
    replace hd8 : rest_ = r1.drop k4 := hd8
    rcases rest_ with _ | ⟨x10, rest7⟩
    · have hlt12 := restNil hd8
      replace h6 := (qcref1_Find_l1.eq_1 _ _ _ _ _).symm.trans h6
      refine COk.seqQ fun Q293 qn293 qx293 qr293 => ?_
      refine gor hn ?_
      refine qn293 _ _ ?_
      refine COk.seqQ fun Q294 qn294 qx294 qr294 => ?_
      refine goc hn ?_
      refine bselF hlt12 ?_
      refine goe hn ?_
      refine qx294 _ _ _ ?_
      refine qx292 _ _ _ ?_
      refine qe291 _ _ ?_
      refine qn290 _ _ ?_
      obtain rfl := Option.some.inj h6
      refine EOk.done ?_
      exact ⟨⟨_, rfl⟩, [], trivial, ⟨trivial, trivial, rfl, rfl⟩⟩
    · obtain ⟨hx11, hd2, hlt12⟩ := restCons hd8
      replace h6 := (qcref1_Find_l1.eq_2 _ _ _ _ _ _ _).symm.trans h6
      refine COk.seqQ fun Q295 qn295 qx295 qr295 => ?_
      refine gor hn ?_
      refine qn295 _ _ ?_
      refine COk.seqQ fun Q296 qn296 qx296 qr296 => ?_
      refine goc hn ?_
      refine bselT hlt12 ?_
      refine gok hn ?_
      refine qn296 _ _ ?_
      refine COk.seqQ fun Q297 qn297 qx297 qr297 => ?_
      refine COk.blkQ fun Q337 qn337 qe337 qx337 qr337 => ?_
      refine COk.seqQ fun Q338 qn338 qx338 qr338 => ?_
      refine gor hn ?_
      obtain ⟨x13, hx14, h6⟩ := bindM h6
      refine ownM hx14 ?_
      refine ldM (nthO_some hx14).2 ?_
      refine qn338 _ _ ?_
      refine COk.seqQ fun Q339 qn339 qx339 qr339 => ?_
      refine gor hn ?_
      obtain ⟨x15, hx16, h6⟩ := bindM h6
      refine idxM hx16 ?_
      refine lenM (fun hl17 => ?_)
      refine qn339 _ _ ?_
      obtain ⟨o19, h20, h6⟩ := bindM h6
      refine COk.joinR (ι := { s : Unit // o19 = Ctl.next s }) (fun s => [(2, .str a2), (3, .ptr 3 0), (14, .own 14), (15, .int (r1.length : Int)), (16, .int (k4 : Int))]) (fun s => [(3, .box (eWd a0) 26), (14, .row 1 (List.map eInt r1) 3)]) (fun Q354 qn354 qx354 qr354 => ?_) (by intro s; rw [hn]; rfl) ?_
      · refine COk.blkQ fun Q355 qn355 qe355 qx355 qr355 => ?_
        refine COk.loopQ (ι := { q : ((List Me) × Nat) // q.1 = x15.methods.drop q.2 ∧ qcref1_Find_l2 N a2 x13 q.1 q.2 = some o19 }) (fun q => [(2, .str a2), (3, .ptr 3 0), (9, .int x13), (14, .own 14), (15, .int (r1.length : Int)), (16, .int (k4 : Int)), (25, .sl 5 (List.map eMe x15.methods)), (26, .int (x15.methods.length : Int)), (27, .int (q.1.2 : Int))]) (fun q => [(3, .box (eWd a0) 26), (14, .row 1 (List.map eInt r1) 3)]) (fun q => q.1.1.length) ⟨(x15.methods, 0), rfl, h20⟩ [] ⟨⟨rfl, rfl, rfl, rfl, rfl, rfl, (by repeat (first | exact trivial | exact rfl | (refine And.intro ?_ ?_))), rfl, rfl, trivial⟩, ⟨rfl, rfl, trivial⟩, rfl, rfl⟩ (by intro q; rw [hn]; rfl) ?_
        rintro ⟨⟨rest_, k18⟩, hd22, h20⟩ Q356 qn356 qx356 qr356
        replace hd22 : rest_ = x15.methods.drop k18 := hd22
        rcases rest_ with _ | ⟨x24, rest21⟩
        · have hlt26 := restNil hd22
          replace h20 := (qcref1_Find_l2.eq_1 _ _ _ _).symm.trans h20
          refine COk.seqQ fun Q357 qn357 qx357 qr357 => ?_
          refine gor hn ?_
          refine qn357 _ _ ?_
          refine COk.seqQ fun Q358 qn358 qx358 qr358 => ?_
          refine goc hn ?_
          refine bselF hlt26 ?_
          refine goe hn ?_
          refine qx358 _ _ _ ?_
          refine qx356 _ _ _ ?_
          refine qe355 _ _ ?_
          refine qn354 _ _ ?_
          obtain rfl := Option.some.inj h20
          refine EOk.done ?_
          exact ⟨⟨_, rfl⟩, [], trivial, ⟨⟨rfl, rfl, rfl, rfl, rfl, trivial⟩, ⟨rfl, rfl, trivial⟩, rfl, rfl⟩⟩
        · obtain ⟨hx25, hd2, hlt26⟩ := restCons hd22
          replace h20 := (qcref1_Find_l2.eq_2 _ _ _ _ _ _).symm.trans h20
          refine COk.seqQ fun Q359 qn359 qx359 qr359 => ?_
          refine gor hn ?_
          refine qn359 _ _ ?_
          refine COk.seqQ fun Q360 qn360 qx360 qr360 => ?_
          refine goc hn ?_
          refine bselT hlt26 ?_
          refine gok hn ?_
          refine qn360 _ _ ?_
          refine COk.seqQ fun Q361 qn361 qx361 qr361 => ?_
          refine COk.blkQ fun Q362 qn362 qe362 qx362 qr362 => ?_
          refine COk.seqQ fun Q363 qn363 qx363 qr363 => ?_
          refine gor hn ?_
          refine idxK hx25 ?_
          refine qn363 _ _ ?_
          refine COk.seqQ fun Q364 qn364 qx364 qr364 => ?_
          refine gor hn ?_
          refine qn364 _ _ ?_
          refine goc hn ?_
          refine bselM h20 (fun hb27 h20 => ?_) (fun hb27 h20 => ?_)
          · refine COk.seqQ fun Q365 qn365 qx365 qr365 => ?_
            refine COk.sub (ts2 := [(9, .int x13), (10, .int (k18 : Int))]) (os2 := []) [] ⟨⟨rfl, rfl, trivial⟩, trivial, rfl, rfl⟩ (by rw [hn]; rfl) ?_
            refine gor hn ?_
            refine qn365 _ _ ?_
            refine got hn ?_
            refine qr362 _ _ ?_
            refine qr361 _ _ ?_
            refine qr356 _ _ ?_
            refine qr355 _ _ ?_
            refine qr354 _ _ ?_
            refine qr337 _ _ ?_
            refine qr297 _ _ ?_
            refine qr292 _ _ ?_
            refine qr291 _ _ ?_
            refine qr290 _ _ ?_
            refine qr185 _ _ ?_
            obtain rfl := Option.some.inj h20
            obtain rfl := Option.some.inj h6
            obtain rfl := Option.some.inj h
            exact ⟨[], _, rfl, (by repeat (first | exact trivial | exact rfl | (refine And.intro ?_ ?_))), trivial, rfl, rfl, rfl, rfl, rfl⟩
          · refine gok hn ?_
            refine qn362 _ _ ?_
            refine qn361 _ _ ?_
            refine COk.sub (ts2 := [(2, .str a2), (3, .ptr 3 0), (9, .int x13), (14, .own 14), (15, .int (r1.length : Int)), (16, .int (k4 : Int)), (25, .sl 5 (List.map eMe x15.methods)), (26, .int (x15.methods.length : Int)), (27, .int (k18 : Int))]) (os2 := [(3, .box (eWd a0) 26), (14, .row 1 (List.map eInt r1) 3)]) [] ⟨⟨rfl, rfl, rfl, rfl, rfl, rfl, (by repeat (first | exact trivial | exact rfl | (refine And.intro ?_ ?_))), rfl, rfl, trivial⟩, ⟨rfl, rfl, trivial⟩, rfl, rfl⟩ (by rw [hn]; rfl) ?_
            refine gor hn ?_
            refine Or.inl (And.intro (inrK hx25 hl17) ?_)
            refine qn356 _ _ ?_
            refine EOk.done ?_
            exact ⟨⟨(rest21, k18 + 1), hd2, h20⟩, [], by show rest21.length < rest21.length + 1; omega, ⟨⟨rfl, rfl, rfl, rfl, rfl, rfl, (by repeat (first | exact trivial | exact rfl | (refine And.intro ?_ ?_))), rfl, rfl, trivial⟩, ⟨rfl, rfl, trivial⟩, rfl, rfl⟩⟩
      rintro ⟨⟨⟩, rfl⟩
      refine qn337 _ _ ?_
      refine qn297 _ _ ?_
      refine gor hn ?_
      refine Or.inl (And.intro (inrK hx11 hl3) ?_)
      refine qn292 _ _ ?_
      refine EOk.done ?_
      exact ⟨⟨(rest7, k4 + 1), hd2, h6⟩, [], by show rest7.length < rest7.length + 1; omega, ⟨⟨rfl, rfl, rfl, rfl, rfl, trivial⟩, ⟨rfl, rfl, trivial⟩, rfl, rfl⟩⟩
  rintro ⟨⟨⟩, rfl⟩
  refine qn185 _ _ ?_
  refine COk.seqQ fun Q366 qn366 qx366 qr366 => ?_
  refine gor hn ?_
  refine qn366 _ _ ?_
  refine got hn ?_
  obtain rfl := Option.some.inj h
  exact ⟨[], _, rfl, (by repeat (first | exact trivial | exact rfl | (refine And.intro ?_ ?_))), trivial, rfl, rfl, rfl, rfl, rfl⟩

/- qcref1.Name -/
set_option maxRecDepth 100000 in
set_option maxHeartbeats 1000000 in
theorem qcref1_Name_ok (N : Nat) (a0 : ByteArray) (r : Bool) (h : qcref1_Name N a0 = some r) : Spec Try.prog 36 [] [.str a0] (.bool r) [] [] := by
  refine Spec.of tabOk Try.func36 rfl Try.ntmps36 (by kernel_rfl) rfl rfl rfl fun Γ hn => ?_
  unfold qcref1_Name at h
  refine COk.seqQ fun Q47 qn47 qx47 qr47 => ?_
  refine gor hn ?_
  refine qn47 _ _ ?_
  refine COk.seqQ fun Q48 qn48 qx48 qr48 => ?_
  refine COk.seqQ fun Q49 qn49 qx49 qr49 => ?_
  refine gor hn ?_
  intro hl1
  refine qn49 _ _ ?_
  refine COk.rng 5 rfl (fun hrn => ?_)
  obtain ⟨o3, h4, h⟩ := bindM h
  refine COk.joinR (ι := { s : Unit // o3 = Ctl.next s }) (fun s => [(0, .str a0)]) (fun s => []) (fun Q72 qn72 qx72 qr72 => ?_) (by intro s; rw [hn]; rfl) ?_
  · refine COk.blkQ fun Q73 qn73 qe73 qx73 qr73 => ?_
    refine COk.loopQ (ι := { q : (Nat × Nat) // q.1 = ((a0.size : Int) - (q.2 : Int)).toNat ∧ qcref1_Name_l1 N a0 q.1 q.2 = some o3 }) (fun q => [(0, .str a0), (5, .int (a0.size : Int)), (6, .int (q.1.2 : Int))]) (fun q => []) (fun q => q.1.1) ⟨(((a0.size : Int) - ((0 : Nat) : Int)).toNat, 0), rfl, h4⟩ [] ⟨⟨rfl, rfl, rfl, trivial⟩, trivial, rfl, rfl⟩ (by intro q; rw [hn]; rfl) ?_
    rintro ⟨⟨n_, k2⟩, hd6, h4⟩ Q74 qn74 qx74 qr74
    replace hd6 : n_ = ((a0.size : Int) - (k2 : Int)).toNat := hd6
    rcases n_ with _ | n7
    · have hlt10 := upNil hd6
      replace h4 := (qcref1_Name_l1.eq_1 _ _ _).symm.trans h4
      refine COk.seqQ fun Q75 qn75 qx75 qr75 => ?_
      refine gor hn ?_
      refine qn75 _ _ ?_
      refine COk.seqQ fun Q76 qn76 qx76 qr76 => ?_
      refine goc hn ?_
      refine bselF hlt10 ?_
      refine goe hn ?_
      refine qx76 _ _ _ ?_
      refine qx74 _ _ _ ?_
      refine qe73 _ _ ?_
      refine qn72 _ _ ?_
      obtain rfl := Option.some.inj h4
      refine EOk.done ?_
      exact ⟨⟨_, rfl⟩, [], trivial, ⟨⟨rfl, trivial⟩, trivial, rfl, rfl⟩⟩
    · obtain ⟨hd2, hlt10⟩ := upCons hd6
      replace h4 := (qcref1_Name_l1.eq_2 _ _ _ _).symm.trans h4
      refine COk.seqQ fun Q77 qn77 qx77 qr77 => ?_
      refine gor hn ?_
      refine qn77 _ _ ?_
      refine COk.seqQ fun Q78 qn78 qx78 qr78 => ?_
      refine goc hn ?_
      refine bselT hlt10 ?_
      refine gok hn ?_
      refine qn78 _ _ ?_
      refine COk.seqQ fun Q79 qn79 qx79 qr79 => ?_
      refine COk.blkQ fun Q86 qn86 qe86 qx86 qr86 => ?_
      refine COk.seqQ fun Q87 qn87 qx87 qr87 => ?_
      refine gor hn ?_
      refine qn87 _ _ ?_
      refine COk.seqQ fun Q88 qn88 qx88 qr88 => ?_
      obtain ⟨o13, h12, h4⟩ := bindM h4
      refine COk.joinR (ι := { s : Bool // o13 = s }) (fun s => [(0, .str a0), (5, .int (a0.size : Int)), (6, .int (k2 : Int)), (18, .bool s.1)]) (fun s => []) (fun Q89 qn89 qx89 qr89 => ?_) (by intro s; rw [hn]; rfl) ?_
      · refine gor hn ?_
        obtain ⟨u14, hx15, h12⟩ := bindM h12
        refine byM hx15 ?_
        refine And.intro rfl ?_
        refine bselM h12 (fun hb16 h12 => ?_) (fun hb16 h12 => ?_)
        · refine bselT hb16 ?_
          refine bselT hb16 ?_
          refine bselT hb16 ?_
          refine bselT hb16 ?_
          refine qn89 _ _ ?_
          obtain rfl := Option.some.inj h12
          refine EOk.done ?_
          exact ⟨⟨_, rfl⟩, [], trivial, ⟨⟨rfl, rfl, rfl, rfl, trivial⟩, trivial, rfl, rfl⟩⟩
        · refine bselF hb16 ?_
          refine bselF hb16 ?_
          obtain ⟨u17, hx18, h12⟩ := bindM h12
          refine byM hx18 ?_
          refine bselF hb16 ?_
          refine And.intro rfl ?_
          refine bselF hb16 ?_
          refine qn89 _ _ ?_
          obtain rfl := Option.some.inj h12
          refine EOk.done ?_
          exact ⟨⟨_, rfl⟩, [], trivial, ⟨⟨rfl, rfl, rfl, rfl, trivial⟩, trivial, rfl, rfl⟩⟩
      rintro ⟨v11, hv_⟩
      replace hv_ := hv_.symm
      subst hv_
      refine qn88 _ _ ?_
      refine goc hn ?_
      refine bselM h4 (fun hb19 h4 => ?_) (fun hb19 h4 => ?_)
      · refine COk.seqQ fun Q90 qn90 qx90 qr90 => ?_
        refine gor hn ?_
        refine qn90 _ _ ?_
        refine got hn ?_
        refine qr86 _ _ ?_
        refine qr79 _ _ ?_
        refine qr74 _ _ ?_
        refine qr73 _ _ ?_
        refine qr72 _ _ ?_
        refine qr48 _ _ ?_
        obtain rfl := Option.some.inj h4
        obtain rfl := Option.some.inj h
        exact ⟨[], _, rfl, (by repeat (first | exact trivial | exact rfl | (refine And.intro ?_ ?_))), trivial, rfl, rfl, rfl, rfl, rfl⟩
      · refine gok hn ?_
        refine qn86 _ _ ?_
        refine qn79 _ _ ?_
        refine gor hn ?_
        refine Or.inl (And.intro (inrU hlt10 hrn) ?_)
        refine qn74 _ _ ?_
        refine EOk.done ?_
        exact ⟨⟨(n7, k2 + 1), hd2, h4⟩, [], by show n7 < n7 + 1; omega, ⟨⟨rfl, rfl, rfl, trivial⟩, trivial, rfl, rfl⟩⟩
  rintro ⟨⟨⟩, rfl⟩
  refine qn48 _ _ ?_
  refine COk.seqQ fun Q91 qn91 qx91 qr91 => ?_
  obtain ⟨o22, h21, h⟩ := bindM h
  refine COk.joinR (ι := { s : Bool // o22 = s }) (fun s => [(2, .bool s.1)]) (fun s => []) (fun Q92 qn92 qx92 qr92 => ?_) (by intro s; rw [hn]; rfl) ?_
  · refine gor hn ?_
    intro hl23
    refine bselM h21 (fun hb24 h21 => ?_) (fun hb24 h21 => ?_)
    · refine bselT hb24 ?_
      intro hl25
      refine bselT hb24 ?_
      refine bselT hb24 ?_
      refine qn92 _ _ ?_
      obtain rfl := Option.some.inj h21
      refine EOk.done ?_
      exact ⟨⟨_, rfl⟩, [], trivial, ⟨⟨rfl, trivial⟩, trivial, rfl, rfl⟩⟩
    · refine bselF hb24 ?_
      refine bselF hb24 ?_
      refine bselF hb24 ?_
      refine qn92 _ _ ?_
      obtain rfl := Option.some.inj h21
      refine EOk.done ?_
      exact ⟨⟨_, rfl⟩, [], trivial, ⟨⟨rfl, trivial⟩, trivial, rfl, rfl⟩⟩
  rintro ⟨v20, hv_⟩
  replace hv_ := hv_.symm
  subst hv_
  refine qn91 _ _ ?_
  refine got hn ?_
  obtain rfl := Option.some.inj h
  exact ⟨[], _, rfl, (by repeat (first | exact trivial | exact rfl | (refine And.intro ?_ ?_))), trivial, rfl, rfl, rfl, rfl, rfl⟩

/- qcref1.Slots -/
set_option maxRecDepth 100000 in
set_option maxHeartbeats 1000000 in
theorem qcref1_Slots_ok (N : Nat) (a0 : Wd) (a1 : Int) (r : Int) (h : qcref1_Slots N a0 a1 = some r) : Spec Try.prog 38 [] [.agg (eWd a0), .int a1] (.int r) [] [] := by
  refine Spec.of tabOk Try.func38 rfl Try.ntmps38 (by kernel_rfl) rfl rfl rfl fun Γ hn => ?_
  unfold qcref1_Slots at h
  refine COk.seqQ fun Q39 qn39 qx39 qr39 => ?_
  refine gor hn ?_
  refine qn39 _ _ ?_
  refine COk.seqQ fun Q40 qn40 qx40 qr40 => ?_
  refine gor hn ?_
  refine qn40 _ _ ?_
  refine COk.seqQ fun Q41 qn41 qx41 qr41 => ?_
  refine COk.seqQ fun Q42 qn42 qx42 qr42 => ?_
  refine gor hn ?_
  obtain ⟨r1, hr2, h⟩ := bindM h
  show CallOk Try.prog _ _ _ _
  refine CallOk.as ((qcref1_Ups_ok N a0 a1 r1 hr2).sw 0 10) (by repeat (first | exact trivial | exact rfl | (refine And.intro ?_ ?_))) trivial rfl ?_
  refine lenM (fun hl3 => ?_)
  refine qn42 _ _ ?_
  obtain ⟨o8, h9, h⟩ := bindM h
  refine COk.joinR (ι := { s : Int // o8 = s }) (fun s => [(5, .int s.1)]) (fun s => []) (fun Q64 qn64 qx64 qr64 => ?_) (by intro s; rw [hn]; rfl) ?_
  · refine COk.blkQ fun Q65 qn65 qe65 qx65 qr65 => ?_
    refine COk.loopQ (ι := { q : ((List Int) × Nat × Int) // q.1 = r1.drop q.2.1 ∧ qcref1_Slots_l1 N a0 r1 q.1 q.2.1 q.2.2 = some o8 }) (fun q => [(2, .ptr 2 0), (5, .int q.1.2.2), (10, .own 10), (11, .int (r1.length : Int)), (12, .int (q.1.2.1 : Int))]) (fun q => [(2, .box (eWd a0) 26), (10, .row 1 (List.map eInt r1) 3)]) (fun q => q.1.1.length) ⟨(r1, 0, (0 : Int)), rfl, h9⟩ [] ⟨⟨rfl, rfl, rfl, rfl, rfl, trivial⟩, ⟨rfl, rfl, trivial⟩, rfl, rfl⟩ (by intro q; rw [hn]; rfl) ?_
    rintro ⟨⟨rest_, k4, v5⟩, hd11, h9⟩ Q66 qn66 qx66 qr66
    replace hd11 : rest_ = r1.drop k4 := hd11
    rcases rest_ with _ | ⟨x13, rest10⟩
    · have hlt15 := restNil hd11
      replace h9 := (qcref1_Slots_l1.eq_1 _ _ _ _ _).symm.trans h9
      refine COk.seqQ fun Q67 qn67 qx67 qr67 => ?_
      refine gor hn ?_
      refine qn67 _ _ ?_
      refine COk.seqQ fun Q68 qn68 qx68 qr68 => ?_
      refine goc hn ?_
      refine bselF hlt15 ?_
      refine goe hn ?_
      refine qx68 _ _ _ ?_
      refine qx66 _ _ _ ?_
      refine qe65 _ _ ?_
      refine qn64 _ _ ?_
      obtain rfl := Option.some.inj h9
      refine EOk.done ?_
      exact ⟨⟨_, rfl⟩, [], trivial, ⟨⟨rfl, trivial⟩, trivial, rfl, rfl⟩⟩
    · obtain ⟨hx14, hd2, hlt15⟩ := restCons hd11
      replace h9 := (qcref1_Slots_l1.eq_2 _ _ _ _ _ _ _).symm.trans h9
      refine COk.seqQ fun Q69 qn69 qx69 qr69 => ?_
      refine gor hn ?_
      refine qn69 _ _ ?_
      refine COk.seqQ fun Q70 qn70 qx70 qr70 => ?_
      refine goc hn ?_
      refine bselT hlt15 ?_
      refine gok hn ?_
      refine qn70 _ _ ?_
      refine COk.seqQ fun Q71 qn71 qx71 qr71 => ?_
      refine COk.blkQ fun Q74 qn74 qe74 qx74 qr74 => ?_
      refine COk.seqQ fun Q75 qn75 qx75 qr75 => ?_
      refine gor hn ?_
      obtain ⟨x16, hx17, h9⟩ := bindM h9
      refine ownM hx17 ?_
      refine ldM (nthO_some hx17).2 ?_
      refine qn75 _ _ ?_
      refine gor hn ?_
      obtain ⟨x18, hx19, h9⟩ := bindM h9
      refine idxM hx19 ?_
      refine Or.inr ?_
      refine qn74 _ _ ?_
      refine qn71 _ _ ?_
      refine COk.sub (ts2 := [(2, .ptr 2 0), (5, .int (wr (v5 + x18.slots))), (10, .own 10), (11, .int (r1.length : Int)), (12, .int (k4 : Int))]) (os2 := [(2, .box (eWd a0) 26), (10, .row 1 (List.map eInt r1) 3)]) [] ⟨⟨rfl, rfl, rfl, rfl, rfl, trivial⟩, ⟨rfl, rfl, trivial⟩, rfl, rfl⟩ (by rw [hn]; rfl) ?_
      refine gor hn ?_
      refine Or.inl (And.intro (inrK hx14 hl3) ?_)
      refine qn66 _ _ ?_
      refine EOk.done ?_
      exact ⟨⟨(rest10, k4 + 1, (wr (v5 + x18.slots))), hd2, h9⟩, [], by show rest10.length < rest10.length + 1; omega, ⟨⟨rfl, rfl, rfl, rfl, rfl, trivial⟩, ⟨rfl, rfl, trivial⟩, rfl, rfl⟩⟩
  rintro ⟨v7, hv_⟩
  replace hv_ := hv_.symm
  subst hv_
  refine qn41 _ _ ?_
  refine COk.seqQ fun Q76 qn76 qx76 qr76 => ?_
  refine gor hn ?_
  refine qn76 _ _ ?_
  refine got hn ?_
  obtain rfl := Option.some.inj h
  exact ⟨[], _, rfl, (by repeat (first | exact trivial | exact rfl | (refine And.intro ?_ ?_))), trivial, rfl, rfl, rfl, rfl, rfl⟩

/- qcref1.Numbers -/
set_option maxRecDepth 100000 in
set_option maxHeartbeats 1000000 in
theorem qcref1_Numbers_ok (N : Nat) (a0 : Wd) (a1 : Int) (a2 : Me) (a3 : Ins) (r : Int) (h : qcref1_Numbers N a0 a1 a2 a3 = some r) : Spec Try.prog 77 [] [.agg (eWd a0), .int a1, .agg (eMe a2), .agg (eIns a3)] (.int r) [] [] := by
  refine Spec.of tabOk Try.func77 rfl Try.ntmps77 (by kernel_rfl) rfl rfl rfl fun Γ hn => ?_
  unfold qcref1_Numbers at h
  refine COk.seqQ fun Q1420 qn1420 qx1420 qr1420 => ?_
  refine gor hn ?_
  refine qn1420 _ _ ?_
  refine COk.seqQ fun Q1421 qn1421 qx1421 qr1421 => ?_
  refine gor hn ?_
  refine qn1421 _ _ ?_
  refine COk.seqQ fun Q1422 qn1422 qx1422 qr1422 => ?_
  refine COk.seqQ fun Q1423 qn1423 qx1423 qr1423 => ?_
  refine gor hn ?_
  refine qn1423 _ _ ?_
  refine COk.blkQ fun Q2789 qn2789 qe2789 qx2789 qr2789 => ?_
  refine COk.seqQ fun Q2790 qn2790 qx2790 qr2790 => ?_
  refine COk.seqQ fun Q2791 qn2791 qx2791 qr2791 => ?_
  refine gor hn ?_
  refine qn2791 _ _ ?_
  obtain ⟨o3, h2, h⟩ := bindM h
  refine COk.joinR (ι := { s : Bool // o3 = s }) (fun s => [(1, .int a1), (4, .ptr 4 0), (6, .ptr 6 0), (7, .ptr 7 0), (9, .int (0 : Int)), (10, .int (0 : Int)), (12, .int a3.op), (13, .bool s.1)]) (fun s => [(4, .box (eWd a0) 26), (6, .box (eMe a2) 64), (7, .box (eIns a3) 62)]) (fun Q2792 qn2792 qx2792 qr2792 => ?_) (by intro s; rw [hn]; rfl) ?_
  · refine goc hn ?_
    refine bselM h2 (fun hb4 h2 => ?_) (fun hb4 h2 => ?_)
    · refine gok hn ?_
      refine qn2792 _ _ ?_
      obtain rfl := Option.some.inj h2
      refine EOk.done ?_
      exact ⟨⟨_, rfl⟩, [], trivial, ⟨⟨rfl, rfl, rfl, rfl, rfl, rfl, rfl, rfl, trivial⟩, ⟨rfl, rfl, rfl, trivial⟩, rfl, rfl⟩⟩
    · refine COk.seqQ fun Q2793 qn2793 qx2793 qr2793 => ?_
      refine gor hn ?_
      refine qn2793 _ _ ?_
      obtain ⟨o7, h6, h2⟩ := bindM h2
      refine COk.joinR (ι := { s : Bool // o7 = s }) (fun s => [(1, .int a1), (4, .ptr 4 0), (6, .ptr 6 0), (7, .ptr 7 0), (9, .int (0 : Int)), (10, .int (0 : Int)), (12, .int a3.op), (13, .bool s.1)]) (fun s => [(4, .box (eWd a0) 26), (6, .box (eMe a2) 64), (7, .box (eIns a3) 62)]) (fun Q2794 qn2794 qx2794 qr2794 => ?_) (by intro s; rw [hn]; rfl) ?_
      · refine goc hn ?_
        refine bselM h6 (fun hb8 h6 => ?_) (fun hb8 h6 => ?_)
        · refine gok hn ?_
          refine qn2794 _ _ ?_
          obtain rfl := Option.some.inj h6
          refine EOk.done ?_
          exact ⟨⟨_, rfl⟩, [], trivial, ⟨⟨rfl, rfl, rfl, rfl, rfl, rfl, rfl, rfl, trivial⟩, ⟨rfl, rfl, rfl, trivial⟩, rfl, rfl⟩⟩
        · refine COk.seqQ fun Q2795 qn2795 qx2795 qr2795 => ?_
          refine gor hn ?_
          refine qn2795 _ _ ?_
          obtain ⟨o11, h10, h6⟩ := bindM h6
          refine COk.joinR (ι := { s : Bool // o11 = s }) (fun s => [(1, .int a1), (4, .ptr 4 0), (6, .ptr 6 0), (7, .ptr 7 0), (9, .int (0 : Int)), (10, .int (0 : Int)), (12, .int a3.op), (13, .bool s.1)]) (fun s => [(4, .box (eWd a0) 26), (6, .box (eMe a2) 64), (7, .box (eIns a3) 62)]) (fun Q2796 qn2796 qx2796 qr2796 => ?_) (by intro s; rw [hn]; rfl) ?_
          · refine goc hn ?_
            refine bselM h10 (fun hb12 h10 => ?_) (fun hb12 h10 => ?_)
            · refine gok hn ?_
              refine qn2796 _ _ ?_
              obtain rfl := Option.some.inj h10
              refine EOk.done ?_
              exact ⟨⟨_, rfl⟩, [], trivial, ⟨⟨rfl, rfl, rfl, rfl, rfl, rfl, rfl, rfl, trivial⟩, ⟨rfl, rfl, rfl, trivial⟩, rfl, rfl⟩⟩
            · refine COk.seqQ fun Q2797 qn2797 qx2797 qr2797 => ?_
              refine gor hn ?_
              refine qn2797 _ _ ?_
              obtain ⟨o15, h14, h10⟩ := bindM h10
              refine COk.joinR (ι := { s : Bool // o15 = s }) (fun s => [(1, .int a1), (4, .ptr 4 0), (6, .ptr 6 0), (7, .ptr 7 0), (9, .int (0 : Int)), (10, .int (0 : Int)), (12, .int a3.op), (13, .bool s.1)]) (fun s => [(4, .box (eWd a0) 26), (6, .box (eMe a2) 64), (7, .box (eIns a3) 62)]) (fun Q2798 qn2798 qx2798 qr2798 => ?_) (by intro s; rw [hn]; rfl) ?_
              · refine goc hn ?_
                refine bselM h14 (fun hb16 h14 => ?_) (fun hb16 h14 => ?_)
                · refine gok hn ?_
                  refine qn2798 _ _ ?_
                  obtain rfl := Option.some.inj h14
                  refine EOk.done ?_
                  exact ⟨⟨_, rfl⟩, [], trivial, ⟨⟨rfl, rfl, rfl, rfl, rfl, rfl, rfl, rfl, trivial⟩, ⟨rfl, rfl, rfl, trivial⟩, rfl, rfl⟩⟩
                · refine COk.seqQ fun Q2799 qn2799 qx2799 qr2799 => ?_
                  refine COk.sub (ts2 := [(1, .int a1), (4, .ptr 4 0), (6, .ptr 6 0), (7, .ptr 7 0), (9, .int (0 : Int)), (10, .int (0 : Int)), (12, .int a3.op)]) (os2 := [(4, .box (eWd a0) 26), (6, .box (eMe a2) 64), (7, .box (eIns a3) 62)]) [] ⟨⟨rfl, rfl, rfl, rfl, rfl, rfl, rfl, trivial⟩, ⟨rfl, rfl, rfl, trivial⟩, rfl, rfl⟩ (by rw [hn]; rfl) ?_
                  refine gor hn ?_
                  refine qn2799 _ _ ?_
                  obtain ⟨o19, h18, h14⟩ := bindM h14
                  refine COk.joinR (ι := { s : Bool // o19 = s }) (fun s => [(1, .int a1), (4, .ptr 4 0), (6, .ptr 6 0), (7, .ptr 7 0), (9, .int (0 : Int)), (10, .int (0 : Int)), (12, .int a3.op), (13, .bool s.1)]) (fun s => [(4, .box (eWd a0) 26), (6, .box (eMe a2) 64), (7, .box (eIns a3) 62)]) (fun Q2800 qn2800 qx2800 qr2800 => ?_) (by intro s; rw [hn]; rfl) ?_
                  · refine goc hn ?_
                    refine bselM h18 (fun hb20 h18 => ?_) (fun hb20 h18 => ?_)
                    · refine gok hn ?_
                      refine qn2800 _ _ ?_
                      obtain rfl := Option.some.inj h18
                      refine EOk.done ?_
                      exact ⟨⟨_, rfl⟩, [], trivial, ⟨⟨rfl, rfl, rfl, rfl, rfl, rfl, rfl, rfl, trivial⟩, ⟨rfl, rfl, rfl, trivial⟩, rfl, rfl⟩⟩
                    · refine COk.seqQ fun Q2801 qn2801 qx2801 qr2801 => ?_
                      refine gor hn ?_
                      refine qn2801 _ _ ?_
                      obtain ⟨o23, h22, h18⟩ := bindM h18
                      refine COk.joinR (ι := { s : Bool // o23 = s }) (fun s => [(1, .int a1), (4, .ptr 4 0), (6, .ptr 6 0), (7, .ptr 7 0), (9, .int (0 : Int)), (10, .int (0 : Int)), (12, .int a3.op), (13, .bool s.1)]) (fun s => [(4, .box (eWd a0) 26), (6, .box (eMe a2) 64), (7, .box (eIns a3) 62)]) (fun Q2802 qn2802 qx2802 qr2802 => ?_) (by intro s; rw [hn]; rfl) ?_
                      · refine goc hn ?_
                        refine bselM h22 (fun hb24 h22 => ?_) (fun hb24 h22 => ?_)
                        · refine gok hn ?_
                          refine qn2802 _ _ ?_
                          obtain rfl := Option.some.inj h22
                          refine EOk.done ?_
                          exact ⟨⟨_, rfl⟩, [], trivial, ⟨⟨rfl, rfl, rfl, rfl, rfl, rfl, rfl, rfl, trivial⟩, ⟨rfl, rfl, rfl, trivial⟩, rfl, rfl⟩⟩
                        · refine gor hn ?_
                          refine qn2802 _ _ ?_
                          obtain rfl := Option.some.inj h22
                          refine EOk.done ?_
                          exact ⟨⟨_, rfl⟩, [], trivial, ⟨⟨rfl, rfl, rfl, rfl, rfl, rfl, rfl, rfl, trivial⟩, ⟨rfl, rfl, rfl, trivial⟩, rfl, rfl⟩⟩
                      rintro ⟨v21, hv_⟩
                      replace hv_ := hv_.symm
                      subst hv_
                      refine qn2800 _ _ ?_
                      obtain rfl := Option.some.inj h18
                      refine EOk.done ?_
                      exact ⟨⟨_, rfl⟩, [], trivial, ⟨⟨rfl, rfl, rfl, rfl, rfl, rfl, rfl, rfl, trivial⟩, ⟨rfl, rfl, rfl, trivial⟩, rfl, rfl⟩⟩
                  rintro ⟨v17, hv_⟩
                  replace hv_ := hv_.symm
                  subst hv_
                  refine qn2798 _ _ ?_
                  obtain rfl := Option.some.inj h14
                  refine EOk.done ?_
                  exact ⟨⟨_, rfl⟩, [], trivial, ⟨⟨rfl, rfl, rfl, rfl, rfl, rfl, rfl, rfl, trivial⟩, ⟨rfl, rfl, rfl, trivial⟩, rfl, rfl⟩⟩
              rintro ⟨v13, hv_⟩
              replace hv_ := hv_.symm
              subst hv_
              refine qn2796 _ _ ?_
              obtain rfl := Option.some.inj h10
              refine EOk.done ?_
              exact ⟨⟨_, rfl⟩, [], trivial, ⟨⟨rfl, rfl, rfl, rfl, rfl, rfl, rfl, rfl, trivial⟩, ⟨rfl, rfl, rfl, trivial⟩, rfl, rfl⟩⟩
          rintro ⟨v9, hv_⟩
          replace hv_ := hv_.symm
          subst hv_
          refine qn2794 _ _ ?_
          obtain rfl := Option.some.inj h6
          refine EOk.done ?_
          exact ⟨⟨_, rfl⟩, [], trivial, ⟨⟨rfl, rfl, rfl, rfl, rfl, rfl, rfl, rfl, trivial⟩, ⟨rfl, rfl, rfl, trivial⟩, rfl, rfl⟩⟩
      rintro ⟨v5, hv_⟩
      replace hv_ := hv_.symm
      subst hv_
      refine qn2792 _ _ ?_
      obtain rfl := Option.some.inj h2
      refine EOk.done ?_
      exact ⟨⟨_, rfl⟩, [], trivial, ⟨⟨rfl, rfl, rfl, rfl, rfl, rfl, rfl, rfl, trivial⟩, ⟨rfl, rfl, rfl, trivial⟩, rfl, rfl⟩⟩
  rintro ⟨v1, hv_⟩
  replace hv_ := hv_.symm
  subst hv_
  refine qn2790 _ _ ?_
  obtain ⟨o28, h27, h⟩ := bindM h
  refine COk.joinR (ι := { s : (Int × Int) // o28 = Ctl.next s }) (fun s => [(7, .ptr 7 0), (9, .int s.1.1), (10, .int s.1.2)]) (fun s => [(7, .box (eIns a3) 62)]) (fun Q2803 qn2803 qx2803 qr2803 => ?_) (by intro s; rw [hn]; rfl) ?_
  · refine goc hn ?_
    refine bselM h27 (fun hb29 h27 => ?_) (fun hb29 h27 => ?_)
    · refine gok hn ?_
      refine qn2803 _ _ ?_
      obtain rfl := Option.some.inj h27
      refine EOk.done ?_
      exact ⟨⟨_, rfl⟩, [], trivial, ⟨⟨rfl, rfl, rfl, trivial⟩, ⟨rfl, trivial⟩, rfl, rfl⟩⟩
    · refine COk.seqQ fun Q2804 qn2804 qx2804 qr2804 => ?_
      refine gor hn ?_
      refine qn2804 _ _ ?_
      obtain ⟨o33, h32, h27⟩ := bindM h27
      refine COk.joinR (ι := { s : (Int × Int) // o33 = Ctl.next s }) (fun s => [(7, .ptr 7 0), (9, .int s.1.1), (10, .int s.1.2)]) (fun s => [(7, .box (eIns a3) 62)]) (fun Q2805 qn2805 qx2805 qr2805 => ?_) (by intro s; rw [hn]; rfl) ?_
      · refine goc hn ?_
        refine bselM h32 (fun hb34 h32 => ?_) (fun hb34 h32 => ?_)
        · refine gor hn ?_
          refine Or.inr ?_
          refine qn2805 _ _ ?_
          obtain rfl := Option.some.inj h32
          refine EOk.done ?_
          exact ⟨⟨_, rfl⟩, [], trivial, ⟨⟨rfl, rfl, rfl, trivial⟩, ⟨rfl, trivial⟩, rfl, rfl⟩⟩
        · refine COk.seqQ fun Q2806 qn2806 qx2806 qr2806 => ?_
          refine COk.seqQ fun Q2807 qn2807 qx2807 qr2807 => ?_
          refine gor hn ?_
          refine qn2807 _ _ ?_
          obtain ⟨o37, h36, h32⟩ := bindM h32
          refine COk.joinR (ι := { s : Bool // o37 = s }) (fun s => [(1, .int a1), (4, .ptr 4 0), (6, .ptr 6 0), (7, .ptr 7 0), (9, .int (0 : Int)), (12, .int a3.op), (26, .bool s.1)]) (fun s => [(4, .box (eWd a0) 26), (6, .box (eMe a2) 64), (7, .box (eIns a3) 62)]) (fun Q2808 qn2808 qx2808 qr2808 => ?_) (by intro s; rw [hn]; rfl) ?_
          · refine goc hn ?_
            refine bselM h36 (fun hb38 h36 => ?_) (fun hb38 h36 => ?_)
            · refine gok hn ?_
              refine qn2808 _ _ ?_
              obtain rfl := Option.some.inj h36
              refine EOk.done ?_
              exact ⟨⟨_, rfl⟩, [], trivial, ⟨⟨rfl, rfl, rfl, rfl, rfl, rfl, rfl, trivial⟩, ⟨rfl, rfl, rfl, trivial⟩, rfl, rfl⟩⟩
            · refine gor hn ?_
              refine qn2808 _ _ ?_
              obtain rfl := Option.some.inj h36
              refine EOk.done ?_
              exact ⟨⟨_, rfl⟩, [], trivial, ⟨⟨rfl, rfl, rfl, rfl, rfl, rfl, rfl, trivial⟩, ⟨rfl, rfl, rfl, trivial⟩, rfl, rfl⟩⟩
          rintro ⟨v35, hv_⟩
          replace hv_ := hv_.symm
          subst hv_
          refine qn2806 _ _ ?_
          obtain ⟨o42, h41, h32⟩ := bindM h32
          refine COk.joinR (ι := { s : (Int × Int) // o42 = Ctl.next s }) (fun s => [(7, .ptr 7 0), (9, .int s.1.1), (10, .int s.1.2)]) (fun s => [(7, .box (eIns a3) 62)]) (fun Q2809 qn2809 qx2809 qr2809 => ?_) (by intro s; rw [hn]; rfl) ?_
          · refine goc hn ?_
            refine bselM h41 (fun hb43 h41 => ?_) (fun hb43 h41 => ?_)
            · refine gor hn ?_
              refine Or.inr ?_
              refine qn2809 _ _ ?_
              obtain rfl := Option.some.inj h41
              refine EOk.done ?_
              exact ⟨⟨_, rfl⟩, [], trivial, ⟨⟨rfl, rfl, rfl, trivial⟩, ⟨rfl, trivial⟩, rfl, rfl⟩⟩
            · refine COk.seqQ fun Q2810 qn2810 qx2810 qr2810 => ?_
              refine COk.seqQ fun Q2811 qn2811 qx2811 qr2811 => ?_
              refine gor hn ?_
              refine qn2811 _ _ ?_
              obtain ⟨o46, h45, h41⟩ := bindM h41
              refine COk.joinR (ι := { s : Bool // o46 = s }) (fun s => [(1, .int a1), (4, .ptr 4 0), (6, .ptr 6 0), (7, .ptr 7 0), (9, .int (0 : Int)), (12, .int a3.op), (32, .bool s.1)]) (fun s => [(4, .box (eWd a0) 26), (6, .box (eMe a2) 64), (7, .box (eIns a3) 62)]) (fun Q2812 qn2812 qx2812 qr2812 => ?_) (by intro s; rw [hn]; rfl) ?_
              · refine goc hn ?_
                refine bselM h45 (fun hb47 h45 => ?_) (fun hb47 h45 => ?_)
                · refine gok hn ?_
                  refine qn2812 _ _ ?_
                  obtain rfl := Option.some.inj h45
                  refine EOk.done ?_
                  exact ⟨⟨_, rfl⟩, [], trivial, ⟨⟨rfl, rfl, rfl, rfl, rfl, rfl, rfl, trivial⟩, ⟨rfl, rfl, rfl, trivial⟩, rfl, rfl⟩⟩
                · refine gor hn ?_
                  refine qn2812 _ _ ?_
                  obtain rfl := Option.some.inj h45
                  refine EOk.done ?_
                  exact ⟨⟨_, rfl⟩, [], trivial, ⟨⟨rfl, rfl, rfl, rfl, rfl, rfl, rfl, trivial⟩, ⟨rfl, rfl, rfl, trivial⟩, rfl, rfl⟩⟩
              rintro ⟨v44, hv_⟩
              replace hv_ := hv_.symm
              subst hv_
              refine qn2810 _ _ ?_
              obtain ⟨o51, h50, h41⟩ := bindM h41
              refine COk.joinR (ι := { s : (Int × Int) // o51 = Ctl.next s }) (fun s => [(7, .ptr 7 0), (9, .int s.1.1), (10, .int s.1.2)]) (fun s => [(7, .box (eIns a3) 62)]) (fun Q2813 qn2813 qx2813 qr2813 => ?_) (by intro s; rw [hn]; rfl) ?_
              · refine goc hn ?_
                refine bselM h50 (fun hb52 h50 => ?_) (fun hb52 h50 => ?_)
                · refine gor hn ?_
                  obtain ⟨r53, hr54, h50⟩ := bindM h50
                  show CallOk Try.prog _ _ _ _
                  refine CallOk.as (qcref1_Slots_ok N a0 a1 r53 hr54) (by repeat (first | exact trivial | exact rfl | (refine And.intro ?_ ?_))) trivial rfl ?_
                  refine Or.inr ?_
                  refine qn2813 _ _ ?_
                  obtain rfl := Option.some.inj h50
                  refine EOk.done ?_
                  exact ⟨⟨_, rfl⟩, [], trivial, ⟨⟨rfl, rfl, rfl, trivial⟩, ⟨rfl, trivial⟩, rfl, rfl⟩⟩
                · refine COk.seqQ fun Q2814 qn2814 qx2814 qr2814 => ?_
                  refine gor hn ?_
                  refine qn2814 _ _ ?_
                  obtain ⟨o58, h57, h50⟩ := bindM h50
                  refine COk.joinR (ι := { s : (Int × Int) // o58 = Ctl.next s }) (fun s => [(7, .ptr 7 0), (9, .int s.1.1), (10, .int s.1.2)]) (fun s => [(7, .box (eIns a3) 62)]) (fun Q2815 qn2815 qx2815 qr2815 => ?_) (by intro s; rw [hn]; rfl) ?_
                  · refine goc hn ?_
                    refine bselM h57 (fun hb59 h57 => ?_) (fun hb59 h57 => ?_)
                    · refine gor hn ?_
                      refine qn2815 _ _ ?_
                      obtain rfl := Option.some.inj h57
                      refine EOk.done ?_
                      exact ⟨⟨_, rfl⟩, [], trivial, ⟨⟨rfl, rfl, rfl, trivial⟩, ⟨rfl, trivial⟩, rfl, rfl⟩⟩
                    · refine COk.seqQ fun Q2816 qn2816 qx2816 qr2816 => ?_
                      refine gor hn ?_
                      refine qn2816 _ _ ?_
                      obtain ⟨o62, h61, h57⟩ := bindM h57
                      refine COk.joinR (ι := { s : Int // o62 = Ctl.next s }) (fun s => [(7, .ptr 7 0), (9, .int (0 : Int)), (10, .int s.1)]) (fun s => [(7, .box (eIns a3) 62)]) (fun Q2817 qn2817 qx2817 qr2817 => ?_) (by intro s; rw [hn]; rfl) ?_
                      · refine goc hn ?_
                        refine bselM h61 (fun hb63 h61 => ?_) (fun hb63 h61 => ?_)
                        · refine COk.seqQ fun Q2818 qn2818 qx2818 qr2818 => ?_
                          refine gor hn ?_
                          refine lenM (fun hl64 => ?_)
                          refine Or.inr ?_
                          refine qn2818 _ _ ?_
                          refine COk.seqQ fun Q2819 qn2819 qx2819 qr2819 => ?_
                          obtain ⟨o67, h66, h61⟩ := bindM h61
                          refine COk.joinR (ι := { s : Bool // o67 = s }) (fun s => [(7, .ptr 7 0), (9, .int (0 : Int)), (10, .int (wr ((a0.classes.length : Int) - (1 : Int)))), (54, .bool s.1)]) (fun s => [(7, .box (eIns a3) 62)]) (fun Q2820 qn2820 qx2820 qr2820 => ?_) (by intro s; rw [hn]; rfl) ?_
                          · refine gor hn ?_
                            refine bselM h66 (fun hb68 h66 => ?_) (fun hb68 h66 => ?_)
                            · refine bselT hb68 ?_
                              refine bselT hb68 ?_
                              refine bselT hb68 ?_
                              refine qn2820 _ _ ?_
                              obtain rfl := Option.some.inj h66
                              refine EOk.done ?_
                              exact ⟨⟨_, rfl⟩, [], trivial, ⟨⟨rfl, rfl, rfl, rfl, trivial⟩, ⟨rfl, trivial⟩, rfl, rfl⟩⟩
                            · refine bselF hb68 ?_
                              refine bselF hb68 ?_
                              refine bselF hb68 ?_
                              refine qn2820 _ _ ?_
                              obtain rfl := Option.some.inj h66
                              refine EOk.done ?_
                              exact ⟨⟨_, rfl⟩, [], trivial, ⟨⟨rfl, rfl, rfl, rfl, trivial⟩, ⟨rfl, trivial⟩, rfl, rfl⟩⟩
                          rintro ⟨v65, hv_⟩
                          replace hv_ := hv_.symm
                          subst hv_
                          refine qn2819 _ _ ?_
                          refine goc hn ?_
                          refine bselM h61 (fun hb69 h61 => ?_) (fun hb69 h61 => ?_)
                          · refine COk.seqQ fun Q2821 qn2821 qx2821 qr2821 => ?_
                            refine gor hn ?_
                            refine qn2821 _ _ ?_
                            refine got hn ?_
                            refine qr2817 _ _ ?_
                            refine qr2815 _ _ ?_
                            refine qr2813 _ _ ?_
                            refine qr2809 _ _ ?_
                            refine qr2805 _ _ ?_
                            refine qr2803 _ _ ?_
                            refine qr2789 _ _ ?_
                            refine qr1422 _ _ ?_
                            obtain rfl := Option.some.inj h61
                            obtain rfl := Option.some.inj h57
                            obtain rfl := Option.some.inj h50
                            obtain rfl := Option.some.inj h41
                            obtain rfl := Option.some.inj h32
                            obtain rfl := Option.some.inj h27
                            obtain rfl := Option.some.inj h
                            exact ⟨[], _, rfl, (by repeat (first | exact trivial | exact rfl | (refine And.intro ?_ ?_))), trivial, rfl, rfl, rfl, rfl, rfl⟩
                          · refine gok hn ?_
                            refine qn2817 _ _ ?_
                            obtain rfl := Option.some.inj h61
                            refine EOk.done ?_
                            exact ⟨⟨_, rfl⟩, [], trivial, ⟨⟨rfl, rfl, rfl, trivial⟩, ⟨rfl, trivial⟩, rfl, rfl⟩⟩
                        · refine COk.seqQ fun Q2822 qn2822 qx2822 qr2822 => ?_
                          refine gor hn ?_
                          refine qn2822 _ _ ?_
                          obtain ⟨o72, h71, h61⟩ := bindM h61
                          refine COk.joinR (ι := { s : Int // o72 = Ctl.next s }) (fun s => [(7, .ptr 7 0), (9, .int (0 : Int)), (10, .int s.1)]) (fun s => [(7, .box (eIns a3) 62)]) (fun Q2823 qn2823 qx2823 qr2823 => ?_) (by intro s; rw [hn]; rfl) ?_
                          · refine goc hn ?_
                            refine bselM h71 (fun hb73 h71 => ?_) (fun hb73 h71 => ?_)
                            · refine gor hn ?_
                              refine qn2823 _ _ ?_
                              obtain rfl := Option.some.inj h71
                              refine EOk.done ?_
                              exact ⟨⟨_, rfl⟩, [], trivial, ⟨⟨rfl, rfl, rfl, trivial⟩, ⟨rfl, trivial⟩, rfl, rfl⟩⟩
                            · refine COk.seqQ fun Q2824 qn2824 qx2824 qr2824 => ?_
                              refine COk.seqQ fun Q2825 qn2825 qx2825 qr2825 => ?_
                              refine gor hn ?_
                              refine qn2825 _ _ ?_
                              obtain ⟨o76, h75, h71⟩ := bindM h71
                              refine COk.joinR (ι := { s : Bool // o76 = s }) (fun s => [(6, .ptr 6 0), (7, .ptr 7 0), (9, .int (0 : Int)), (57, .bool s.1)]) (fun s => [(6, .box (eMe a2) 64), (7, .box (eIns a3) 62)]) (fun Q2826 qn2826 qx2826 qr2826 => ?_) (by intro s; rw [hn]; rfl) ?_
                              · refine goc hn ?_
                                refine bselM h75 (fun hb77 h75 => ?_) (fun hb77 h75 => ?_)
                                · refine gok hn ?_
                                  refine qn2826 _ _ ?_
                                  obtain rfl := Option.some.inj h75
                                  refine EOk.done ?_
                                  exact ⟨⟨_, rfl⟩, [], trivial, ⟨⟨rfl, rfl, rfl, rfl, trivial⟩, ⟨rfl, rfl, trivial⟩, rfl, rfl⟩⟩
                                · refine gor hn ?_
                                  refine qn2826 _ _ ?_
                                  obtain rfl := Option.some.inj h75
                                  refine EOk.done ?_
                                  exact ⟨⟨_, rfl⟩, [], trivial, ⟨⟨rfl, rfl, rfl, rfl, trivial⟩, ⟨rfl, rfl, trivial⟩, rfl, rfl⟩⟩
                              rintro ⟨v74, hv_⟩
                              replace hv_ := hv_.symm
                              subst hv_
                              refine qn2824 _ _ ?_
                              refine goc hn ?_
                              refine bselM h71 (fun hb78 h71 => ?_) (fun hb78 h71 => ?_)
                              · refine gor hn ?_
                                refine lenM (fun hl79 => ?_)
                                refine Or.inr ?_
                                refine qn2823 _ _ ?_
                                obtain rfl := Option.some.inj h71
                                refine EOk.done ?_
                                exact ⟨⟨_, rfl⟩, [], trivial, ⟨⟨rfl, rfl, rfl, trivial⟩, ⟨rfl, trivial⟩, rfl, rfl⟩⟩
                              · refine COk.seqQ fun Q2827 qn2827 qx2827 qr2827 => ?_
                                refine gor hn ?_
                                refine qn2827 _ _ ?_
                                refine got hn ?_
                                refine qr2823 _ _ ?_
                                refine qr2817 _ _ ?_
                                refine qr2815 _ _ ?_
                                refine qr2813 _ _ ?_
                                refine qr2809 _ _ ?_
                                refine qr2805 _ _ ?_
                                refine qr2803 _ _ ?_
                                refine qr2789 _ _ ?_
                                refine qr1422 _ _ ?_
                                obtain rfl := Option.some.inj h71
                                obtain rfl := Option.some.inj h61
                                obtain rfl := Option.some.inj h57
                                obtain rfl := Option.some.inj h50
                                obtain rfl := Option.some.inj h41
                                obtain rfl := Option.some.inj h32
                                obtain rfl := Option.some.inj h27
                                obtain rfl := Option.some.inj h
                                exact ⟨[], _, rfl, (by repeat (first | exact trivial | exact rfl | (refine And.intro ?_ ?_))), trivial, rfl, rfl, rfl, rfl, rfl⟩
                          rintro ⟨v70, rfl⟩
                          refine qn2817 _ _ ?_
                          obtain rfl := Option.some.inj h61
                          refine EOk.done ?_
                          exact ⟨⟨_, rfl⟩, [], trivial, ⟨⟨rfl, rfl, rfl, trivial⟩, ⟨rfl, trivial⟩, rfl, rfl⟩⟩
                      rintro ⟨v60, rfl⟩
                      refine qn2815 _ _ ?_
                      obtain rfl := Option.some.inj h57
                      refine EOk.done ?_
                      exact ⟨⟨_, rfl⟩, [], trivial, ⟨⟨rfl, rfl, rfl, trivial⟩, ⟨rfl, trivial⟩, rfl, rfl⟩⟩
                  rintro ⟨⟨v55, v56⟩, rfl⟩
                  refine qn2813 _ _ ?_
                  obtain rfl := Option.some.inj h50
                  refine EOk.done ?_
                  exact ⟨⟨_, rfl⟩, [], trivial, ⟨⟨rfl, rfl, rfl, trivial⟩, ⟨rfl, trivial⟩, rfl, rfl⟩⟩
              rintro ⟨⟨v48, v49⟩, rfl⟩
              refine qn2809 _ _ ?_
              obtain rfl := Option.some.inj h41
              refine EOk.done ?_
              exact ⟨⟨_, rfl⟩, [], trivial, ⟨⟨rfl, rfl, rfl, trivial⟩, ⟨rfl, trivial⟩, rfl, rfl⟩⟩
          rintro ⟨⟨v39, v40⟩, rfl⟩
          refine qn2805 _ _ ?_
          obtain rfl := Option.some.inj h32
          refine EOk.done ?_
          exact ⟨⟨_, rfl⟩, [], trivial, ⟨⟨rfl, rfl, rfl, trivial⟩, ⟨rfl, trivial⟩, rfl, rfl⟩⟩
      rintro ⟨⟨v30, v31⟩, rfl⟩
      refine qn2803 _ _ ?_
      obtain rfl := Option.some.inj h27
      refine EOk.done ?_
      exact ⟨⟨_, rfl⟩, [], trivial, ⟨⟨rfl, rfl, rfl, trivial⟩, ⟨rfl, trivial⟩, rfl, rfl⟩⟩
  rintro ⟨⟨v25, v26⟩, rfl⟩
  refine qn2789 _ _ ?_
  refine qn1422 _ _ ?_
  refine COk.seqQ fun Q2828 qn2828 qx2828 qr2828 => ?_
  refine COk.seqQ fun Q2829 qn2829 qx2829 qr2829 => ?_
  obtain ⟨o82, h81, h⟩ := bindM h
  refine COk.joinR (ι := { s : Bool // o82 = s }) (fun s => [(7, .ptr 7 0), (73, .bool s.1)]) (fun s => [(7, .box (eIns a3) 62)]) (fun Q2830 qn2830 qx2830 qr2830 => ?_) (by intro s; rw [hn]; rfl) ?_
  · refine gor hn ?_
    refine bselM h81 (fun hb83 h81 => ?_) (fun hb83 h81 => ?_)
    · refine bselT hb83 ?_
      refine bselT hb83 ?_
      refine bselT hb83 ?_
      refine bselT hb83 ?_
      refine qn2830 _ _ ?_
      obtain rfl := Option.some.inj h81
      refine EOk.done ?_
      exact ⟨⟨_, rfl⟩, [], trivial, ⟨⟨rfl, rfl, trivial⟩, ⟨rfl, trivial⟩, rfl, rfl⟩⟩
    · refine bselF hb83 ?_
      refine bselF hb83 ?_
      refine bselF hb83 ?_
      refine bselF hb83 ?_
      refine qn2830 _ _ ?_
      obtain rfl := Option.some.inj h81
      refine EOk.done ?_
      exact ⟨⟨_, rfl⟩, [], trivial, ⟨⟨rfl, rfl, trivial⟩, ⟨rfl, trivial⟩, rfl, rfl⟩⟩
  rintro ⟨v80, hv_⟩
  replace hv_ := hv_.symm
  subst hv_
  refine qn2829 _ _ ?_
  refine goc hn ?_
  refine bselM h (fun hb84 h => ?_) (fun hb84 h => ?_)
  · refine COk.seqQ fun Q2832 qn2832 qx2832 qr2832 => ?_
    refine gor hn ?_
    refine qn2832 _ _ ?_
    refine got hn ?_
    refine qr2828 _ _ ?_
    obtain rfl := Option.some.inj h
    exact ⟨[], _, rfl, (by repeat (first | exact trivial | exact rfl | (refine And.intro ?_ ?_))), trivial, rfl, rfl, rfl, rfl, rfl⟩
  · refine gok hn ?_
    refine qn2828 _ _ ?_
    refine COk.seqQ fun Q2833 qn2833 qx2833 qr2833 => ?_
    refine COk.seqQ fun Q2834 qn2834 qx2834 qr2834 => ?_
    obtain ⟨o87, h86, h⟩ := bindM h
    refine COk.joinR (ι := { s : Bool // o87 = s }) (fun s => [(102, .bool s.1)]) (fun s => []) (fun Q2835 qn2835 qx2835 qr2835 => ?_) (by intro s; rw [hn]; rfl) ?_
    · refine gor hn ?_
      refine bselM h86 (fun hb88 h86 => ?_) (fun hb88 h86 => ?_)
      · refine bselT hb88 ?_
        refine bselT hb88 ?_
        obtain ⟨r89, hr90, h86⟩ := bindM h86
        show CallOk Try.prog _ _ _ _
        refine CallOk.as (qcref1_Name_ok N a3.name r89 hr90) (by repeat (first | exact trivial | exact rfl | (refine And.intro ?_ ?_))) trivial rfl ?_
        refine bselT hb88 ?_
        refine bselT hb88 ?_
        refine bselM h86 (fun hb91 h86 => ?_) (fun hb91 h86 => ?_)
        · refine bselT hb91 ?_
          refine bselT hb91 ?_
          refine bselT hb91 ?_
          refine bselT hb91 ?_
          refine bselT hb91 ?_
          refine qn2835 _ _ ?_
          obtain rfl := Option.some.inj h86
          refine EOk.done ?_
          exact ⟨⟨_, rfl⟩, [], trivial, ⟨⟨rfl, trivial⟩, trivial, rfl, rfl⟩⟩
        · refine bselF hb91 ?_
          refine bselF hb91 ?_
          refine bselF hb91 ?_
          refine bselM h86 (fun hb92 h86 => ?_) (fun hb92 h86 => ?_)
          · refine bselT hb92 ?_
            refine bselT hb92 ?_
            refine bselF hb91 ?_
            refine bselT hb92 ?_
            refine bselF hb91 ?_
            refine bselM h86 (fun hb93 h86 => ?_) (fun hb93 h86 => ?_)
            · refine bselT hb93 ?_
              refine bselT hb93 ?_
              refine bselT hb93 ?_
              refine qn2835 _ _ ?_
              obtain rfl := Option.some.inj h86
              refine EOk.done ?_
              exact ⟨⟨_, rfl⟩, [], trivial, ⟨⟨rfl, trivial⟩, trivial, rfl, rfl⟩⟩
            · refine bselF hb93 ?_
              refine bselF hb93 ?_
              refine bselF hb93 ?_
              refine bselM h86 (fun hb94 h86 => ?_) (fun hb94 h86 => ?_)
              · refine bselT hb94 ?_
                refine bselT hb94 ?_
                refine bselT hb94 ?_
                refine qn2835 _ _ ?_
                obtain rfl := Option.some.inj h86
                refine EOk.done ?_
                exact ⟨⟨_, rfl⟩, [], trivial, ⟨⟨rfl, trivial⟩, trivial, rfl, rfl⟩⟩
              · refine bselF hb94 ?_
                refine bselF hb94 ?_
                refine bselF hb94 ?_
                refine qn2835 _ _ ?_
                obtain rfl := Option.some.inj h86
                refine EOk.done ?_
                exact ⟨⟨_, rfl⟩, [], trivial, ⟨⟨rfl, trivial⟩, trivial, rfl, rfl⟩⟩
          · refine bselF hb92 ?_
            refine bselF hb92 ?_
            refine bselF hb91 ?_
            refine bselF hb92 ?_
            refine bselF hb91 ?_
            refine bselM h86 (fun hb95 h86 => ?_) (fun hb95 h86 => ?_)
            · refine bselT hb95 ?_
              refine bselT hb95 ?_
              refine bselT hb95 ?_
              refine qn2835 _ _ ?_
              obtain rfl := Option.some.inj h86
              refine EOk.done ?_
              exact ⟨⟨_, rfl⟩, [], trivial, ⟨⟨rfl, trivial⟩, trivial, rfl, rfl⟩⟩
            · refine bselF hb95 ?_
              refine bselF hb95 ?_
              refine bselF hb95 ?_
              refine qn2835 _ _ ?_
              obtain rfl := Option.some.inj h86
              refine EOk.done ?_
              exact ⟨⟨_, rfl⟩, [], trivial, ⟨⟨rfl, trivial⟩, trivial, rfl, rfl⟩⟩
      · refine bselF hb88 ?_
        refine bselF hb88 ?_
        refine bselF hb88 ?_
        refine bselF hb88 ?_
        refine bselM h86 (fun hb96 h86 => ?_) (fun hb96 h86 => ?_)
        · refine bselT hb96 ?_
          refine bselT hb96 ?_
          refine bselT hb96 ?_
          refine bselM h86 (fun hb97 h86 => ?_) (fun hb97 h86 => ?_)
          · refine bselT hb97 ?_
            refine bselT hb97 ?_
            refine bselT hb97 ?_
            refine qn2835 _ _ ?_
            obtain rfl := Option.some.inj h86
            refine EOk.done ?_
            exact ⟨⟨_, rfl⟩, [], trivial, ⟨⟨rfl, trivial⟩, trivial, rfl, rfl⟩⟩
          · refine bselF hb97 ?_
            refine bselF hb97 ?_
            refine bselF hb97 ?_
            refine bselM h86 (fun hb98 h86 => ?_) (fun hb98 h86 => ?_)
            · refine bselT hb98 ?_
              refine bselT hb98 ?_
              refine bselT hb98 ?_
              refine qn2835 _ _ ?_
              obtain rfl := Option.some.inj h86
              refine EOk.done ?_
              exact ⟨⟨_, rfl⟩, [], trivial, ⟨⟨rfl, trivial⟩, trivial, rfl, rfl⟩⟩
            · refine bselF hb98 ?_
              refine bselF hb98 ?_
              refine bselF hb98 ?_
              refine qn2835 _ _ ?_
              obtain rfl := Option.some.inj h86
              refine EOk.done ?_
              exact ⟨⟨_, rfl⟩, [], trivial, ⟨⟨rfl, trivial⟩, trivial, rfl, rfl⟩⟩
        · refine bselF hb96 ?_
          refine bselF hb96 ?_
          refine bselF hb96 ?_
          refine bselM h86 (fun hb99 h86 => ?_) (fun hb99 h86 => ?_)
          · refine bselT hb99 ?_
            refine bselT hb99 ?_
            refine bselT hb99 ?_
            refine qn2835 _ _ ?_
            obtain rfl := Option.some.inj h86
            refine EOk.done ?_
            exact ⟨⟨_, rfl⟩, [], trivial, ⟨⟨rfl, trivial⟩, trivial, rfl, rfl⟩⟩
          · refine bselF hb99 ?_
            refine bselF hb99 ?_
            refine bselF hb99 ?_
            refine qn2835 _ _ ?_
            obtain rfl := Option.some.inj h86
            refine EOk.done ?_
            exact ⟨⟨_, rfl⟩, [], trivial, ⟨⟨rfl, trivial⟩, trivial, rfl, rfl⟩⟩
    rintro ⟨v85, hv_⟩
    replace hv_ := hv_.symm
    subst hv_
    refine qn2834 _ _ ?_
    refine goc hn ?_
    refine bselM h (fun hb100 h => ?_) (fun hb100 h => ?_)
    · refine COk.seqQ fun Q2837 qn2837 qx2837 qr2837 => ?_
      refine gor hn ?_
      refine qn2837 _ _ ?_
      refine got hn ?_
      refine qr2833 _ _ ?_
      obtain rfl := Option.some.inj h
      exact ⟨[], _, rfl, (by repeat (first | exact trivial | exact rfl | (refine And.intro ?_ ?_))), trivial, rfl, rfl, rfl, rfl, rfl⟩
    · refine gok hn ?_
      refine qn2833 _ _ ?_
      refine COk.seqQ fun Q2838 qn2838 qx2838 qr2838 => ?_
      refine gor hn ?_
      refine qn2838 _ _ ?_
      refine got hn ?_
      obtain rfl := Option.some.inj h
      exact ⟨[], _, rfl, (by repeat (first | exact trivial | exact rfl | (refine And.intro ?_ ?_))), trivial, rfl, rfl, rfl, rfl, rfl⟩

/- qcref1.Next -/
set_option maxRecDepth 100000 in
set_option maxHeartbeats 1000000 in
theorem qcref1_Next_ok (N : Nat) (a0 : Ins) (a1 : Int) (r : (Int × Int × (List Int))) (h : qcref1_Next N a0 a1 = some r) : Spec Try.prog 91 [] [.agg (eIns a0), .int a1] (.tup [.int r.1, .int r.2.1, .own 0]) [(0, .row 1 (List.map eInt r.2.2) 3)] [0] := by
  refine Spec.of tabOk Try.func91 rfl Try.ntmps91 (by kernel_rfl) rfl rfl rfl fun Γ hn => ?_
  unfold qcref1_Next at h
  refine COk.seqQ fun Q77 qn77 qx77 qr77 => ?_
  refine gor hn ?_
  refine qn77 _ _ ?_
  refine COk.seqQ fun Q78 qn78 qx78 qr78 => ?_
  refine COk.seqQ fun Q79 qn79 qx79 qr79 => ?_
  refine gor hn ?_
  refine qn79 _ _ ?_
  refine COk.blkQ fun Q135 qn135 qe135 qx135 qr135 => ?_
  refine COk.seqQ fun Q136 qn136 qx136 qr136 => ?_
  refine COk.seqQ fun Q137 qn137 qx137 qr137 => ?_
  refine gor hn ?_
  refine qn137 _ _ ?_
  obtain ⟨o3, h2, h⟩ := bindM h
  refine COk.joinR (ι := { s : Bool // o3 = s }) (fun s => [(1, .int a1), (2, .ptr 2 0), (8, .int a0.op), (9, .bool s.1)]) (fun s => [(2, .box (eIns a0) 62)]) (fun Q138 qn138 qx138 qr138 => ?_) (by intro s; rw [hn]; rfl) ?_
  · refine goc hn ?_
    refine bselM h2 (fun hb4 h2 => ?_) (fun hb4 h2 => ?_)
    · refine gok hn ?_
      refine qn138 _ _ ?_
      obtain rfl := Option.some.inj h2
      refine EOk.done ?_
      exact ⟨⟨_, rfl⟩, [], trivial, ⟨⟨rfl, rfl, rfl, rfl, trivial⟩, ⟨rfl, trivial⟩, rfl, rfl⟩⟩
    · refine COk.seqQ fun Q139 qn139 qx139 qr139 => ?_
      refine gor hn ?_
      refine qn139 _ _ ?_
      obtain ⟨o7, h6, h2⟩ := bindM h2
      refine COk.joinR (ι := { s : Bool // o7 = s }) (fun s => [(1, .int a1), (2, .ptr 2 0), (8, .int a0.op), (9, .bool s.1)]) (fun s => [(2, .box (eIns a0) 62)]) (fun Q140 qn140 qx140 qr140 => ?_) (by intro s; rw [hn]; rfl) ?_
      · refine goc hn ?_
        refine bselM h6 (fun hb8 h6 => ?_) (fun hb8 h6 => ?_)
        · refine gok hn ?_
          refine qn140 _ _ ?_
          obtain rfl := Option.some.inj h6
          refine EOk.done ?_
          exact ⟨⟨_, rfl⟩, [], trivial, ⟨⟨rfl, rfl, rfl, rfl, trivial⟩, ⟨rfl, trivial⟩, rfl, rfl⟩⟩
        · refine gor hn ?_
          refine qn140 _ _ ?_
          obtain rfl := Option.some.inj h6
          refine EOk.done ?_
          exact ⟨⟨_, rfl⟩, [], trivial, ⟨⟨rfl, rfl, rfl, rfl, trivial⟩, ⟨rfl, trivial⟩, rfl, rfl⟩⟩
      rintro ⟨v5, hv_⟩
      replace hv_ := hv_.symm
      subst hv_
      refine qn138 _ _ ?_
      obtain rfl := Option.some.inj h2
      refine EOk.done ?_
      exact ⟨⟨_, rfl⟩, [], trivial, ⟨⟨rfl, rfl, rfl, rfl, trivial⟩, ⟨rfl, trivial⟩, rfl, rfl⟩⟩
  rintro ⟨v1, hv_⟩
  replace hv_ := hv_.symm
  subst hv_
  refine qn136 _ _ ?_
  refine goc hn ?_
  refine bselM h (fun hb9 h => ?_) (fun hb9 h => ?_)
  · refine COk.seqQ fun Q141 qn141 qx141 qr141 => ?_
    refine gor hn ?_
    refine Or.inr ?_
    refine Exists.intro (List.map eInt [(wr (a1 + (1 : Int)))]) (And.intro (by repeat (first | exact trivial | exact rfl | (refine And.intro ?_ ?_))) ?_)
    refine qn141 _ _ ?_
    refine got hn ?_
    refine qr135 _ _ ?_
    refine qr78 _ _ ?_
    obtain rfl := Option.some.inj h
    exact ⟨[(0, 15)], _, rfl, (by repeat (first | exact trivial | exact rfl | (refine And.intro ?_ ?_))), ⟨rfl, trivial⟩, rfl, rfl, rfl, rfl, rfl⟩
  · refine COk.seqQ fun Q142 qn142 qx142 qr142 => ?_
    refine gor hn ?_
    refine qn142 _ _ ?_
    refine goc hn ?_
    refine bselM h (fun hb10 h => ?_) (fun hb10 h => ?_)
    · refine COk.seqQ fun Q143 qn143 qx143 qr143 => ?_
      refine gor hn ?_
      refine Or.inr ?_
      refine Exists.intro (List.map eInt [(wr (a1 + (1 : Int)))]) (And.intro (by repeat (first | exact trivial | exact rfl | (refine And.intro ?_ ?_))) ?_)
      refine qn143 _ _ ?_
      refine got hn ?_
      refine qr135 _ _ ?_
      refine qr78 _ _ ?_
      obtain rfl := Option.some.inj h
      exact ⟨[(0, 20)], _, rfl, (by repeat (first | exact trivial | exact rfl | (refine And.intro ?_ ?_))), ⟨rfl, trivial⟩, rfl, rfl, rfl, rfl, rfl⟩
    · refine COk.seqQ fun Q144 qn144 qx144 qr144 => ?_
      refine gor hn ?_
      refine qn144 _ _ ?_
      refine goc hn ?_
      refine bselM h (fun hb11 h => ?_) (fun hb11 h => ?_)
      · refine COk.seqQ fun Q145 qn145 qx145 qr145 => ?_
        refine god hn (by kernel_rfl) ?_
        refine Or.inr ?_
        obtain ⟨hg12, h⟩ := guardM h
        refine decM hg12 ?_
        refine Or.inr ?_
        refine Exists.intro (List.map eInt [(wr (a1 + (1 : Int)))]) (And.intro (by repeat (first | exact trivial | exact rfl | (refine And.intro ?_ ?_))) ?_)
        refine qn145 _ _ ?_
        refine got hn ?_
        refine qr135 _ _ ?_
        refine qr78 _ _ ?_
        obtain rfl := Option.some.inj h
        exact ⟨[(0, 31)], _, rfl, (by repeat (first | exact trivial | exact rfl | (refine And.intro ?_ ?_))), ⟨rfl, trivial⟩, rfl, rfl, rfl, rfl, rfl⟩
      · refine COk.seqQ fun Q146 qn146 qx146 qr146 => ?_
        refine gor hn ?_
        refine qn146 _ _ ?_
        refine goc hn ?_
        refine bselM h (fun hb13 h => ?_) (fun hb13 h => ?_)
        · refine COk.seqQ fun Q147 qn147 qx147 qr147 => ?_
          refine god hn (by kernel_rfl) ?_
          refine Exists.intro (List.map eInt [a0.a]) (And.intro (by repeat (first | exact trivial | exact rfl | (refine And.intro ?_ ?_))) ?_)
          refine qn147 _ _ ?_
          refine got hn ?_
          refine qr135 _ _ ?_
          refine qr78 _ _ ?_
          obtain rfl := Option.some.inj h
          exact ⟨[(0, 36)], _, rfl, (by repeat (first | exact trivial | exact rfl | (refine And.intro ?_ ?_))), ⟨rfl, trivial⟩, rfl, rfl, rfl, rfl, rfl⟩
        · refine COk.seqQ fun Q148 qn148 qx148 qr148 => ?_
          refine gor hn ?_
          refine qn148 _ _ ?_
          refine goc hn ?_
          refine bselM h (fun hb14 h => ?_) (fun hb14 h => ?_)
          · refine COk.seqQ fun Q149 qn149 qx149 qr149 => ?_
            refine god hn (by kernel_rfl) ?_
            refine Or.inr ?_
            refine Exists.intro (List.map eInt [(wr (a1 + (1 : Int))), a0.a]) (And.intro (by repeat (first | exact trivial | exact rfl | (refine And.intro ?_ ?_))) ?_)
            refine qn149 _ _ ?_
            refine got hn ?_
            refine qr135 _ _ ?_
            refine qr78 _ _ ?_
            obtain rfl := Option.some.inj h
            exact ⟨[(0, 43)], _, rfl, (by repeat (first | exact trivial | exact rfl | (refine And.intro ?_ ?_))), ⟨rfl, trivial⟩, rfl, rfl, rfl, rfl, rfl⟩
          · refine COk.seqQ fun Q150 qn150 qx150 qr150 => ?_
            refine gor hn ?_
            refine qn150 _ _ ?_
            refine goc hn ?_
            refine bselM h (fun hb15 h => ?_) (fun hb15 h => ?_)
            · refine COk.seqQ fun Q151 qn151 qx151 qr151 => ?_
              refine gor hn ?_
              refine qn151 _ _ ?_
              refine COk.nilrow 6 206 1 3 rfl rfl rfl ?_
              refine got hn ?_
              refine qr135 _ _ ?_
              refine qr78 _ _ ?_
              obtain rfl := Option.some.inj h
              exact ⟨[(0, 206)], _, rfl, (by repeat (first | exact trivial | exact rfl | (refine And.intro ?_ ?_))), ⟨rfl, trivial⟩, rfl, rfl, rfl, rfl, rfl⟩
            · refine gok hn ?_
              refine qn135 _ _ ?_
              refine qn78 _ _ ?_
              refine COk.seqQ fun Q152 qn152 qx152 qr152 => ?_
              refine gor hn ?_
              refine Or.inr ?_
              refine Exists.intro (List.map eInt [(wr (a1 + (1 : Int)))]) (And.intro (by repeat (first | exact trivial | exact rfl | (refine And.intro ?_ ?_))) ?_)
              refine qn152 _ _ ?_
              refine got hn ?_
              obtain rfl := Option.some.inj h
              exact ⟨[(0, 48)], _, rfl, (by repeat (first | exact trivial | exact rfl | (refine And.intro ?_ ?_))), ⟨rfl, trivial⟩, rfl, rfl, rfl, rfl, rfl⟩

/- qcref1.Heights -/
set_option maxRecDepth 100000 in
set_option maxHeartbeats 1000000 in
theorem qcref1_Heights_ok (N : Nat) (a0 : Me) (r : ((List Int) × TFault)) (h : qcref1_Heights N a0 = some r) : Spec Try.prog 78 [] [.agg (eMe a0)] (.tup [.own 0, .agg (eTFault r.2)]) [(0, .row 1 (List.map eInt r.1) 3)] [0] := by
  refine Spec.of tabOk Try.func78 rfl Try.ntmps78 (by kernel_rfl) rfl rfl rfl fun Γ hn => ?_
  unfold qcref1_Heights at h
  refine COk.seqQ fun Q549 qn549 qx549 qr549 => ?_
  refine gor hn ?_
  refine qn549 _ _ ?_
  refine COk.seqQ fun Q550 qn550 qx550 qr550 => ?_
  refine gor hn ?_
  refine lenM (fun hl1 => ?_)
  obtain ⟨hg2, h⟩ := guardM h
  refine mkM (enc := eInt) (x := (0 : Int)) hg2 (by repeat (first | exact trivial | exact rfl | (refine And.intro ?_ ?_))) ?_
  refine qn550 _ _ ?_
  refine COk.seqQ fun Q551 qn551 qx551 qr551 => ?_
  refine COk.seqQ fun Q552 qn552 qx552 qr552 => ?_
  refine gor hn ?_
  refine lenM (fun hl3 => ?_)
  refine qn552 _ _ ?_
  refine COk.rng 21 rfl (fun hrn => ?_)
  obtain ⟨o8, h9, h⟩ := bindM h
  refine COk.joinR (ι := { s : (List Int) // o8 = s }) (fun s => [(1, .ptr 1 0), (3, .ptr 3 0), (4, .own 19)]) (fun s => [(1, .box (eMe a0) 64), (3, .box [.int (0 : Int), .int (0 : Int)] 95), (19, .row 1 (List.map eInt s.1) 3)]) (fun Q574 qn574 qx574 qr574 => ?_) (by intro s; rw [hn]; rfl) ?_
  · refine COk.blkQ fun Q575 qn575 qe575 qx575 qr575 => ?_
    refine COk.loopQ (ι := { q : (Nat × Nat × (List Int)) // q.1 = (((List.replicate (a0.code.length : Int).toNat (0 : Int)).length : Int) - (q.2.1 : Int)).toNat ∧ qcref1_Heights_l1 N q.1 q.2.1 q.2.2 = some o8 }) (fun q => [(1, .ptr 1 0), (3, .ptr 3 0), (4, .own 19), (21, .int ((List.replicate (a0.code.length : Int).toNat (0 : Int)).length : Int)), (22, .int (q.1.2.1 : Int))]) (fun q => [(1, .box (eMe a0) 64), (3, .box [.int (0 : Int), .int (0 : Int)] 95), (19, .row 1 (List.map eInt q.1.2.2) 3)]) (fun q => q.1.1) ⟨((((List.replicate (a0.code.length : Int).toNat (0 : Int)).length : Int) - ((0 : Nat) : Int)).toNat, 0, (List.replicate (a0.code.length : Int).toNat (0 : Int))), rfl, h9⟩ [] ⟨⟨rfl, rfl, rfl, rfl, rfl, trivial⟩, ⟨rfl, rfl, rfl, trivial⟩, rfl, rfl⟩ (by intro q; rw [hn]; rfl) ?_
    rintro ⟨⟨n_, k4, v5⟩, hd11, h9⟩ Q576 qn576 qx576 qr576
    replace hd11 : n_ = (((List.replicate (a0.code.length : Int).toNat (0 : Int)).length : Int) - (k4 : Int)).toNat := hd11
    rcases n_ with _ | n12
    · have hlt15 := upNil hd11
      replace h9 := (qcref1_Heights_l1.eq_1 _ _ _).symm.trans h9
      refine COk.seqQ fun Q577 qn577 qx577 qr577 => ?_
      refine gor hn ?_
      refine qn577 _ _ ?_
      refine COk.seqQ fun Q578 qn578 qx578 qr578 => ?_
      refine goc hn ?_
      refine bselF hlt15 ?_
      refine goe hn ?_
      refine qx578 _ _ _ ?_
      refine qx576 _ _ _ ?_
      refine qe575 _ _ ?_
      refine qn574 _ _ ?_
      obtain rfl := Option.some.inj h9
      refine EOk.done ?_
      exact ⟨⟨_, rfl⟩, [], trivial, ⟨⟨rfl, rfl, rfl, trivial⟩, ⟨rfl, rfl, rfl, trivial⟩, rfl, rfl⟩⟩
    · obtain ⟨hd2, hlt15⟩ := upCons hd11
      replace h9 := (qcref1_Heights_l1.eq_2 _ _ _ _).symm.trans h9
      refine COk.seqQ fun Q579 qn579 qx579 qr579 => ?_
      refine gor hn ?_
      refine qn579 _ _ ?_
      refine COk.seqQ fun Q580 qn580 qx580 qr580 => ?_
      refine goc hn ?_
      refine bselT hlt15 ?_
      refine gok hn ?_
      refine qn580 _ _ ?_
      refine COk.seqQ fun Q581 qn581 qx581 qr581 => ?_
      refine COk.blkQ fun Q584 qn584 qe584 qx584 qr584 => ?_
      refine COk.seqQ fun Q585 qn585 qx585 qr585 => ?_
      refine gor hn ?_
      refine qn585 _ _ ?_
      refine gor hn ?_
      obtain ⟨x16, hx17, h9⟩ := bindM h9
      refine ownM hx17 ?_
      refine ldM (nthO_some hx17).2 ?_
      refine Exists.intro (List.map eInt (v5.set ((k4 : Int).toNat) (-1 : Int))) (And.intro (leLs_set (nthO_some hx17).2 (by repeat (first | exact trivial | exact rfl | (refine And.intro ?_ ?_)))) ?_)
      refine qn584 _ _ ?_
      refine qn581 _ _ ?_
      refine gor hn ?_
      refine Or.inl (And.intro (inrU hlt15 hrn) ?_)
      refine qn576 _ _ ?_
      refine EOk.done ?_
      exact ⟨⟨(n12, k4 + 1, (v5.set ((k4 : Int).toNat) (-1 : Int))), hd2, h9⟩, [], by show n12 < n12 + 1; omega, ⟨⟨rfl, rfl, rfl, rfl, rfl, trivial⟩, ⟨rfl, rfl, rfl, trivial⟩, rfl, rfl⟩⟩
  rintro ⟨v7, hv_⟩
  replace hv_ := hv_.symm
  subst hv_
  refine qn551 _ _ ?_
  refine COk.seqQ fun Q586 qn586 qx586 qr586 => ?_
  refine gor hn ?_
  refine Exists.intro (List.map eInt [(0 : Int)]) (And.intro (by repeat (first | exact trivial | exact rfl | (refine And.intro ?_ ?_))) ?_)
  refine Exists.intro (List.map eInt [(0 : Int)]) (And.intro (by repeat (first | exact trivial | exact rfl | (refine And.intro ?_ ?_))) ?_)
  refine qn586 _ _ ?_
  refine COk.seqQ fun Q587 qn587 qx587 qr587 => ?_
  refine COk.seqQ fun Q588 qn588 qx588 qr588 => ?_
  refine gor hn ?_
  refine qn588 _ _ ?_
  obtain ⟨o28, h29, h⟩ := bindM h
  refine COk.joinR (ι := { s : (List Int) // o28 = Ctl.next s }) (fun s => [(3, .ptr 3 0), (4, .own 19)]) (fun s => [(3, .box [.int (0 : Int), .int (0 : Int)] 95), (19, .row 1 (List.map eInt s.1) 3)]) (fun Q967 qn967 qx967 qr967 => ?_) (by intro s; rw [hn]; rfl) ?_
  · refine COk.blkQ fun Q968 qn968 qe968 qx968 qr968 => ?_
    refine COk.loopQ (ι := { q : (Nat × (List Int) × (List Int) × (List Int) × Int) // qcref1_Heights_l2 N a0 q.1 q.2.1 q.2.2.1 q.2.2.2.1 q.2.2.2.2 = some o28 }) (fun q => [(1, .ptr 1 0), (3, .ptr 3 0), (4, .own 19), (6, .own 29), (7, .own 30), (8, .int q.1.2.2.2.2)]) (fun q => [(1, .box (eMe a0) 64), (3, .box [.int (0 : Int), .int (0 : Int)] 95), (19, .row 1 (List.map eInt q.1.2.1) 3), (29, .row 1 (List.map eInt q.1.2.2.1) 3), (30, .row 1 (List.map eInt q.1.2.2.2.1) 3)]) (fun q => q.1.1) ⟨(N, v7, [(0 : Int)], [(0 : Int)], (0 : Int)), h29⟩ [] ⟨⟨rfl, rfl, rfl, rfl, rfl, rfl, trivial⟩, ⟨rfl, rfl, rfl, rfl, rfl, trivial⟩, rfl, rfl⟩ (by intro q; rw [hn]; rfl) ?_
    rintro ⟨⟨n_, v19, v20, v21, v22⟩, h29⟩ Q969 qn969 qx969 qr969
    rcases n_ with _ | n32
    · rw [qcref1_Heights_l2.eq_1] at h29
      cases h29
    · replace h29 := (qcref1_Heights_l2.eq_2 _ _ _ _ _ _ _).symm.trans h29
      refine COk.seqQ fun Q970 qn970 qx970 qr970 => ?_
      refine COk.seqQ fun Q971 qn971 qx971 qr971 => ?_
      refine gor hn ?_
      refine lenM (fun hl33 => ?_)
      refine qn971 _ _ ?_
      refine goc hn ?_
      refine bselM h29 (fun hb34 h29 => ?_) (fun hb34 h29 => ?_)
      · refine gok hn ?_
        refine qn970 _ _ ?_
        refine COk.seqQ fun Q972 qn972 qx972 qr972 => ?_
        obtain ⟨o39, h38, h29⟩ := bindM h29
        refine COk.joinR (ι := { s : ((List Int) × (List Int) × (List Int)) // o39 = Ctl.next s }) (fun s => [(1, .ptr 1 0), (3, .ptr 3 0), (4, .own 19), (6, .own 29), (7, .own 30), (8, .int v22)]) (fun s => [(1, .box (eMe a0) 64), (3, .box [.int (0 : Int), .int (0 : Int)] 95), (19, .row 1 (List.map eInt s.1.1) 3), (29, .row 1 (List.map eInt s.1.2.1) 3), (30, .row 1 (List.map eInt s.1.2.2) 3)]) (fun Q1034 qn1034 qx1034 qr1034 => ?_) (by intro s; rw [hn]; rfl) ?_
        · refine COk.blkQ fun Q1035 qn1035 qe1035 qx1035 qr1035 => ?_
          refine COk.seqQ fun Q1036 qn1036 qx1036 qr1036 => ?_
          refine god hn (by kernel_rfl) ?_
          obtain ⟨x40, hx41, h38⟩ := bindM h38
          refine ownM hx41 ?_
          refine ldM (nthO_some hx41).2 ?_
          obtain ⟨x42, hx43, h38⟩ := bindM h38
          refine ownM hx43 ?_
          refine ldM (nthO_some hx43).2 ?_
          refine qn1036 _ _ ?_
          refine COk.seqQ fun Q1037 qn1037 qx1037 qr1037 => ?_
          refine COk.seqQ fun Q1038 qn1038 qx1038 qr1038 => ?_
          obtain ⟨o46, h45, h38⟩ := bindM h38
          refine COk.joinR (ι := { s : Bool // o46 = s }) (fun s => [(1, .ptr 1 0), (3, .ptr 3 0), (4, .own 19), (6, .own 29), (7, .own 30), (8, .int v22), (9, .int x40), (10, .int x42), (53, .bool s.1)]) (fun s => [(1, .box (eMe a0) 64), (3, .box [.int (0 : Int), .int (0 : Int)] 95), (19, .row 1 (List.map eInt v19) 3), (29, .row 1 (List.map eInt v20) 3), (30, .row 1 (List.map eInt v21) 3)]) (fun Q1039 qn1039 qx1039 qr1039 => ?_) (by intro s; rw [hn]; rfl) ?_
          · refine COk.sub (ts2 := [(1, .ptr 1 0), (3, .ptr 3 0), (4, .own 19), (6, .own 29), (7, .own 30), (8, .int v22), (9, .int x40), (10, .int x42)]) (os2 := [(1, .box (eMe a0) 64), (3, .box [.int (0 : Int), .int (0 : Int)] 95), (19, .row 1 (List.map eInt v19) 3), (29, .row 1 (List.map eInt v20) 3), (30, .row 1 (List.map eInt v21) 3)]) [] ⟨⟨rfl, rfl, rfl, rfl, rfl, rfl, rfl, rfl, trivial⟩, ⟨rfl, rfl, rfl, rfl, rfl, trivial⟩, rfl, rfl⟩ (by rw [hn]; rfl) ?_
            refine gor hn ?_
            refine lenM (fun hl47 => ?_)
            refine bselM h45 (fun hb48 h45 => ?_) (fun hb48 h45 => ?_)
            · refine bselT hb48 ?_
              refine bselT hb48 ?_
              refine qn1039 _ _ ?_
              obtain rfl := Option.some.inj h45
              refine EOk.done ?_
              exact ⟨⟨_, rfl⟩, [], trivial, ⟨⟨rfl, rfl, rfl, rfl, rfl, rfl, rfl, rfl, rfl, trivial⟩, ⟨rfl, rfl, rfl, rfl, rfl, trivial⟩, rfl, rfl⟩⟩
            · refine bselF hb48 ?_
              refine bselF hb48 ?_
              refine qn1039 _ _ ?_
              obtain rfl := Option.some.inj h45
              refine EOk.done ?_
              exact ⟨⟨_, rfl⟩, [], trivial, ⟨⟨rfl, rfl, rfl, rfl, rfl, rfl, rfl, rfl, rfl, trivial⟩, ⟨rfl, rfl, rfl, rfl, rfl, trivial⟩, rfl, rfl⟩⟩
          rintro ⟨v44, hv_⟩
          replace hv_ := hv_.symm
          subst hv_
          refine qn1038 _ _ ?_
          refine goc hn ?_
          refine bselM h38 (fun hb49 h38 => ?_) (fun hb49 h38 => ?_)
          · refine COk.seqQ fun Q1041 qn1041 qx1041 qr1041 => ?_
            refine god hn (by kernel_rfl) ?_
            refine lenM (fun hl50 => ?_)
            refine qn1041 _ _ ?_
            refine COk.nilrow 2 202 1 3 rfl rfl rfl ?_
            refine got hn ?_
            refine qr1037 _ _ ?_
            refine qr1035 _ _ ?_
            refine qr1034 _ _ ?_
            refine qr972 _ _ ?_
            refine qr969 _ _ ?_
            refine qr968 _ _ ?_
            refine qr967 _ _ ?_
            refine qr587 _ _ ?_
            obtain rfl := Option.some.inj h38
            obtain rfl := Option.some.inj h29
            obtain rfl := Option.some.inj h
            exact ⟨[(0, 202)], _, rfl, (by repeat (first | exact trivial | exact rfl | (refine And.intro ?_ ?_))), ⟨rfl, trivial⟩, rfl, rfl, rfl, rfl, rfl⟩
          · refine gok hn ?_
            refine qn1037 _ _ ?_
            refine COk.seqQ fun Q1042 qn1042 qx1042 qr1042 => ?_
            refine COk.seqQ fun Q1043 qn1043 qx1043 qr1043 => ?_
            refine gor hn ?_
            obtain ⟨x51, hx52, h38⟩ := bindM h38
            refine ownM hx52 ?_
            refine ldM (nthO_some hx52).2 ?_
            refine qn1043 _ _ ?_
            refine goc hn ?_
            refine bselM h38 (fun hb53 h38 => ?_) (fun hb53 h38 => ?_)
            · refine COk.seqQ fun Q1048 qn1048 qx1048 qr1048 => ?_
              refine COk.seqQ fun Q1049 qn1049 qx1049 qr1049 => ?_
              refine gor hn ?_
              obtain ⟨x54, hx55, h38⟩ := bindM h38
              refine ownM hx55 ?_
              refine ldM (nthO_some hx55).2 ?_
              refine qn1049 _ _ ?_
              refine goc hn ?_
              refine bselM h38 (fun hb56 h38 => ?_) (fun hb56 h38 => ?_)
              · refine COk.seqQ fun Q1050 qn1050 qx1050 qr1050 => ?_
                refine COk.sub (ts2 := [(3, .ptr 3 0), (9, .int x40)]) (os2 := [(3, .box [.int (0 : Int), .int (0 : Int)] 95)]) [] ⟨⟨rfl, rfl, trivial⟩, ⟨rfl, trivial⟩, rfl, rfl⟩ (by rw [hn]; rfl) ?_
                refine gor hn ?_
                refine qn1050 _ _ ?_
                refine COk.nilrow 2 202 1 3 rfl rfl rfl ?_
                refine got hn ?_
                refine qr1048 _ _ ?_
                refine qr1042 _ _ ?_
                refine qr1035 _ _ ?_
                refine qr1034 _ _ ?_
                refine qr972 _ _ ?_
                refine qr969 _ _ ?_
                refine qr968 _ _ ?_
                refine qr967 _ _ ?_
                refine qr587 _ _ ?_
                obtain rfl := Option.some.inj h38
                obtain rfl := Option.some.inj h29
                obtain rfl := Option.some.inj h
                exact ⟨[(0, 202)], _, rfl, (by repeat (first | exact trivial | exact rfl | (refine And.intro ?_ ?_))), ⟨rfl, trivial⟩, rfl, rfl, rfl, rfl, rfl⟩
              · refine gok hn ?_
                refine qn1048 _ _ ?_
                refine goe hn ?_
                refine qx1042 _ _ _ ?_
                refine qe1035 _ _ ?_
                refine qn1034 _ _ ?_
                obtain rfl := Option.some.inj h38
                refine EOk.done ?_
                exact ⟨⟨_, rfl⟩, [], trivial, ⟨⟨rfl, rfl, rfl, rfl, rfl, rfl, trivial⟩, ⟨rfl, rfl, rfl, rfl, rfl, trivial⟩, rfl, rfl⟩⟩
            · refine gok hn ?_
              refine qn1042 _ _ ?_
              refine COk.seqQ fun Q1051 qn1051 qx1051 qr1051 => ?_
              refine gor hn ?_
              obtain ⟨x57, hx58, h38⟩ := bindM h38
              refine ownM hx58 ?_
              refine ldM (nthO_some hx58).2 ?_
              refine Exists.intro (List.map eInt (v19.set x40.toNat x42)) (And.intro (leLs_set (nthO_some hx58).2 (by repeat (first | exact trivial | exact rfl | (refine And.intro ?_ ?_)))) ?_)
              refine qn1051 _ _ ?_
              refine COk.seqQ fun Q1052 qn1052 qx1052 qr1052 => ?_
              refine COk.sub (ts2 := [(1, .ptr 1 0), (3, .ptr 3 0), (4, .own 19), (6, .own 29), (7, .own 30), (8, .int v22), (9, .int x40), (10, .int x42)]) (os2 := [(1, .box (eMe a0) 64), (3, .box [.int (0 : Int), .int (0 : Int)] 95), (19, .row 1 (List.map eInt (v19.set x40.toNat x42)) 3), (29, .row 1 (List.map eInt v20) 3), (30, .row 1 (List.map eInt v21) 3)]) [] ⟨⟨rfl, rfl, rfl, rfl, rfl, rfl, rfl, rfl, trivial⟩, ⟨rfl, rfl, rfl, rfl, rfl, trivial⟩, rfl, rfl⟩ (by rw [hn]; rfl) ?_
              refine gor hn ?_
              obtain ⟨x59, hx60, h38⟩ := bindM h38
              refine idxM hx60 ?_
              obtain ⟨r61, hr62, h38⟩ := bindM h38
              show CallOk Try.prog _ _ _ _
              refine CallOk.as ((qcref1_Next_ok N x59 x40 r61 hr62).sw 0 82) (by repeat (first | exact trivial | exact rfl | (refine And.intro ?_ ?_))) trivial rfl ?_
              refine qn1052 _ _ ?_
              refine COk.seqQ fun Q1053 qn1053 qx1053 qr1053 => ?_
              refine COk.seqQ fun Q1054 qn1054 qx1054 qr1054 => ?_
              obtain ⟨o65, h64, h38⟩ := bindM h38
              refine COk.joinR (ι := { s : Bool // o65 = s }) (fun s => [(1, .ptr 1 0), (3, .ptr 3 0), (4, .own 19), (6, .own 29), (7, .own 30), (8, .int v22), (9, .int x40), (10, .int x42), (12, .int r61.2.1), (13, .own 82), (101, .bool s.1)]) (fun s => [(1, .box (eMe a0) 64), (3, .box [.int (0 : Int), .int (0 : Int)] 95), (19, .row 1 (List.map eInt (v19.set x40.toNat x42)) 3), (29, .row 1 (List.map eInt v20) 3), (30, .row 1 (List.map eInt v21) 3), (82, .row 1 (List.map eInt r61.2.2) 3)]) (fun Q1055 qn1055 qx1055 qr1055 => ?_) (by intro s; rw [hn]; rfl) ?_
              · refine COk.sub (ts2 := [(1, .ptr 1 0), (3, .ptr 3 0), (4, .own 19), (6, .own 29), (7, .own 30), (8, .int v22), (9, .int x40), (10, .int x42), (11, .int r61.1), (12, .int r61.2.1), (13, .own 82)]) (os2 := [(1, .box (eMe a0) 64), (3, .box [.int (0 : Int), .int (0 : Int)] 95), (19, .row 1 (List.map eInt (v19.set x40.toNat x42)) 3), (29, .row 1 (List.map eInt v20) 3), (30, .row 1 (List.map eInt v21) 3), (82, .row 1 (List.map eInt r61.2.2) 3)]) [] ⟨⟨rfl, rfl, rfl, rfl, rfl, rfl, rfl, rfl, rfl, rfl, rfl, trivial⟩, ⟨rfl, rfl, rfl, rfl, rfl, rfl, trivial⟩, rfl, rfl⟩ (by rw [hn]; rfl) ?_
                refine gor hn ?_
                refine bselM h64 (fun hb66 h64 => ?_) (fun hb66 h64 => ?_)
                · refine bselT hb66 ?_
                  refine bselT hb66 ?_
                  refine bselT hb66 ?_
                  refine bselT hb66 ?_
                  refine bselT hb66 ?_
                  refine bselT hb66 ?_
                  refine bselT hb66 ?_
                  refine bselT hb66 ?_
                  refine bselT hb66 ?_
                  refine qn1055 _ _ ?_
                  obtain rfl := Option.some.inj h64
                  refine EOk.done ?_
                  exact ⟨⟨_, rfl⟩, [], trivial, ⟨⟨rfl, rfl, rfl, rfl, rfl, rfl, rfl, rfl, rfl, rfl, rfl, trivial⟩, ⟨rfl, rfl, rfl, rfl, rfl, rfl, trivial⟩, rfl, rfl⟩⟩
                · refine bselF hb66 ?_
                  refine bselF hb66 ?_
                  refine bselF hb66 ?_
                  obtain ⟨x67, hx68, h64⟩ := bindM h64
                  refine idxM hx68 ?_
                  refine bselF hb66 ?_
                  refine bselF hb66 ?_
                  refine bselF hb66 ?_
                  refine bselF hb66 ?_
                  refine bselM h64 (fun hb69 h64 => ?_) (fun hb69 h64 => ?_)
                  · refine bselT hb69 ?_
                    refine bselF hb66 ?_
                    refine bselT hb69 ?_
                    refine bselF hb66 ?_
                    refine qn1055 _ _ ?_
                    obtain rfl := Option.some.inj h64
                    refine EOk.done ?_
                    exact ⟨⟨_, rfl⟩, [], trivial, ⟨⟨rfl, rfl, rfl, rfl, rfl, rfl, rfl, rfl, rfl, rfl, rfl, trivial⟩, ⟨rfl, rfl, rfl, rfl, rfl, rfl, trivial⟩, rfl, rfl⟩⟩
                  · refine bselF hb69 ?_
                    refine bselF hb66 ?_
                    refine bselF hb69 ?_
                    refine bselF hb66 ?_
                    refine qn1055 _ _ ?_
                    obtain rfl := Option.some.inj h64
                    refine EOk.done ?_
                    exact ⟨⟨_, rfl⟩, [], trivial, ⟨⟨rfl, rfl, rfl, rfl, rfl, rfl, rfl, rfl, rfl, rfl, rfl, trivial⟩, ⟨rfl, rfl, rfl, rfl, rfl, rfl, trivial⟩, rfl, rfl⟩⟩
              rintro ⟨v63, hv_⟩
              replace hv_ := hv_.symm
              subst hv_
              refine qn1054 _ _ ?_
              refine goc hn ?_
              refine bselM h38 (fun hb70 h38 => ?_) (fun hb70 h38 => ?_)
              · refine COk.seqQ fun Q1057 qn1057 qx1057 qr1057 => ?_
                refine gor hn ?_
                refine qn1057 _ _ ?_
                refine COk.nilrow 2 202 1 3 rfl rfl rfl ?_
                refine got hn ?_
                refine qr1053 _ _ ?_
                refine qr1035 _ _ ?_
                refine qr1034 _ _ ?_
                refine qr972 _ _ ?_
                refine qr969 _ _ ?_
                refine qr968 _ _ ?_
                refine qr967 _ _ ?_
                refine qr587 _ _ ?_
                obtain rfl := Option.some.inj h38
                obtain rfl := Option.some.inj h29
                obtain rfl := Option.some.inj h
                exact ⟨[(0, 202)], _, rfl, (by repeat (first | exact trivial | exact rfl | (refine And.intro ?_ ?_))), ⟨rfl, trivial⟩, rfl, rfl, rfl, rfl, rfl⟩
              · refine gok hn ?_
                refine qn1053 _ _ ?_
                refine COk.seqQ fun Q1058 qn1058 qx1058 qr1058 => ?_
                refine COk.seqQ fun Q1059 qn1059 qx1059 qr1059 => ?_
                refine gor hn ?_
                refine Or.inr ?_
                refine qn1059 _ _ ?_
                refine goc hn ?_
                refine bselM h38 (fun hb71 h38 => ?_) (fun hb71 h38 => ?_)
                · refine COk.seqQ fun Q1061 qn1061 qx1061 qr1061 => ?_
                  refine gor hn ?_
                  refine qn1061 _ _ ?_
                  refine COk.nilrow 2 202 1 3 rfl rfl rfl ?_
                  refine got hn ?_
                  refine qr1058 _ _ ?_
                  refine qr1035 _ _ ?_
                  refine qr1034 _ _ ?_
                  refine qr972 _ _ ?_
                  refine qr969 _ _ ?_
                  refine qr968 _ _ ?_
                  refine qr967 _ _ ?_
                  refine qr587 _ _ ?_
                  obtain rfl := Option.some.inj h38
                  obtain rfl := Option.some.inj h29
                  obtain rfl := Option.some.inj h
                  exact ⟨[(0, 202)], _, rfl, (by repeat (first | exact trivial | exact rfl | (refine And.intro ?_ ?_))), ⟨rfl, trivial⟩, rfl, rfl, rfl, rfl, rfl⟩
                · refine gok hn ?_
                  refine qn1058 _ _ ?_
                  refine COk.seqQ fun Q1062 qn1062 qx1062 qr1062 => ?_
                  refine gor hn ?_
                  refine lenM (fun hl72 => ?_)
                  refine qn1062 _ _ ?_
                  obtain ⟨o80, h81, h38⟩ := bindM h38
                  refine COk.joinR (ι := { s : ((List Int) × (List Int)) // o80 = s }) (fun s => [(1, .ptr 1 0), (3, .ptr 3 0), (4, .own 19), (6, .own 29), (7, .own 30), (8, .int v22)]) (fun s => [(1, .box (eMe a0) 64), (3, .box [.int (0 : Int), .int (0 : Int)] 95), (19, .row 1 (List.map eInt (v19.set x40.toNat x42)) 3), (29, .row 1 (List.map eInt s.1.1) 3), (30, .row 1 (List.map eInt s.1.2) 3)]) (fun Q1084 qn1084 qx1084 qr1084 => ?_) (by intro s; rw [hn]; rfl) ?_
                  · refine COk.blkQ fun Q1085 qn1085 qe1085 qx1085 qr1085 => ?_
                    refine COk.loopQ (ι := { q : ((List Int) × Nat × (List Int) × (List Int)) // q.1 = r61.2.2.drop q.2.1 ∧ qcref1_Heights_l3 N x42 r61 q.1 q.2.1 q.2.2.1 q.2.2.2 = some o80 }) (fun q => [(1, .ptr 1 0), (3, .ptr 3 0), (4, .own 19), (6, .own 29), (7, .own 30), (8, .int v22), (10, .int x42), (12, .int r61.2.1), (110, .own 82), (111, .int (r61.2.2.length : Int)), (112, .int (q.1.2.1 : Int))]) (fun q => [(1, .box (eMe a0) 64), (3, .box [.int (0 : Int), .int (0 : Int)] 95), (19, .row 1 (List.map eInt (v19.set x40.toNat x42)) 3), (29, .row 1 (List.map eInt q.1.2.2.1) 3), (30, .row 1 (List.map eInt q.1.2.2.2) 3), (82, .row 1 (List.map eInt r61.2.2) 3)]) (fun q => q.1.1.length) ⟨(r61.2.2, 0, v20, v21), rfl, h81⟩ [] ⟨⟨rfl, rfl, rfl, rfl, rfl, rfl, rfl, rfl, rfl, rfl, rfl, trivial⟩, ⟨rfl, rfl, rfl, rfl, rfl, rfl, trivial⟩, rfl, rfl⟩ (by intro q; rw [hn]; rfl) ?_
                    rintro ⟨⟨rest_, k73, v74, v75⟩, hd83, h81⟩ Q1086 qn1086 qx1086 qr1086
                    replace hd83 : rest_ = r61.2.2.drop k73 := hd83
                    rcases rest_ with _ | ⟨x85, rest82⟩
                    · have hlt87 := restNil hd83
                      replace h81 := (qcref1_Heights_l3.eq_1 _ _ _ _ _ _).symm.trans h81
                      refine COk.seqQ fun Q1087 qn1087 qx1087 qr1087 => ?_
                      refine gor hn ?_
                      refine qn1087 _ _ ?_
                      refine COk.seqQ fun Q1088 qn1088 qx1088 qr1088 => ?_
                      refine goc hn ?_
                      refine bselF hlt87 ?_
                      refine goe hn ?_
                      refine qx1088 _ _ _ ?_
                      refine qx1086 _ _ _ ?_
                      refine qe1085 _ _ ?_
                      refine qn1084 _ _ ?_
                      obtain rfl := Option.some.inj h81
                      refine EOk.done ?_
                      exact ⟨⟨_, rfl⟩, [], trivial, ⟨⟨rfl, rfl, rfl, rfl, rfl, rfl, trivial⟩, ⟨rfl, rfl, rfl, rfl, rfl, trivial⟩, rfl, rfl⟩⟩
                    · obtain ⟨hx86, hd2, hlt87⟩ := restCons hd83
                      replace h81 := (qcref1_Heights_l3.eq_2 _ _ _ _ _ _ _ _).symm.trans h81
                      refine COk.seqQ fun Q1089 qn1089 qx1089 qr1089 => ?_
                      refine gor hn ?_
                      refine qn1089 _ _ ?_
                      refine COk.seqQ fun Q1090 qn1090 qx1090 qr1090 => ?_
                      refine goc hn ?_
                      refine bselT hlt87 ?_
                      refine gok hn ?_
                      refine qn1090 _ _ ?_
                      refine COk.seqQ fun Q1091 qn1091 qx1091 qr1091 => ?_
                      refine COk.blkQ fun Q1094 qn1094 qe1094 qx1094 qr1094 => ?_
                      refine COk.seqQ fun Q1095 qn1095 qx1095 qr1095 => ?_
                      refine gor hn ?_
                      obtain ⟨x88, hx89, h81⟩ := bindM h81
                      refine ownM hx89 ?_
                      refine ldM (nthO_some hx89).2 ?_
                      refine qn1095 _ _ ?_
                      refine gor hn ?_
                      refine Exists.intro (List.map eInt [x88]) (And.intro (by repeat (first | exact trivial | exact rfl | (refine And.intro ?_ ?_))) ?_)
                      obtain ⟨hg90, h81⟩ := guardM h81
                      refine appM (l2 := [x88]) hg90 (leLs_refl _) ?_
                      refine Or.inr ?_
                      refine Exists.intro (List.map eInt [(wr (x42 + r61.2.1))]) (And.intro (by repeat (first | exact trivial | exact rfl | (refine And.intro ?_ ?_))) ?_)
                      obtain ⟨hg91, h81⟩ := guardM h81
                      refine appM (l2 := [(wr (x42 + r61.2.1))]) hg91 (leLs_refl _) ?_
                      refine qn1094 _ _ ?_
                      refine qn1091 _ _ ?_
                      refine COk.sub (ts2 := [(1, .ptr 1 0), (3, .ptr 3 0), (4, .own 19), (6, .own 119), (7, .own 125), (8, .int v22), (10, .int x42), (12, .int r61.2.1), (110, .own 82), (111, .int (r61.2.2.length : Int)), (112, .int (k73 : Int))]) (os2 := [(1, .box (eMe a0) 64), (3, .box [.int (0 : Int), .int (0 : Int)] 95), (19, .row 1 (List.map eInt (v19.set x40.toNat x42)) 3), (82, .row 1 (List.map eInt r61.2.2) 3), (119, .row 1 (List.map eInt (v74 ++ [x88])) 3), (125, .row 1 (List.map eInt (v75 ++ [(wr (x42 + r61.2.1))])) 3)]) [] ⟨⟨rfl, rfl, rfl, rfl, rfl, rfl, rfl, rfl, rfl, rfl, rfl, trivial⟩, ⟨rfl, rfl, rfl, rfl, rfl, rfl, trivial⟩, rfl, rfl⟩ (by rw [hn]; rfl) ?_
                      refine gor hn ?_
                      refine Or.inl (And.intro (inrK hx86 hl72) ?_)
                      refine qn1086 _ _ ?_
                      refine EOk.done ?_
                      exact ⟨⟨(rest82, k73 + 1, (v74 ++ [x88]), (v75 ++ [(wr (x42 + r61.2.1))])), hd2, h81⟩, [(29, 119), (30, 125)], by show rest82.length < rest82.length + 1; omega, ⟨⟨rfl, rfl, rfl, rfl, rfl, rfl, rfl, rfl, rfl, rfl, rfl, trivial⟩, ⟨rfl, rfl, rfl, rfl, rfl, rfl, trivial⟩, rfl, rfl⟩⟩
                  rintro ⟨⟨v78, v79⟩, rfl⟩
                  refine qn1035 _ _ ?_
                  refine qn1034 _ _ ?_
                  obtain rfl := Option.some.inj h38
                  refine EOk.done ?_
                  exact ⟨⟨_, rfl⟩, [], trivial, ⟨⟨rfl, rfl, rfl, rfl, rfl, rfl, trivial⟩, ⟨rfl, rfl, rfl, rfl, rfl, trivial⟩, rfl, rfl⟩⟩
        rintro ⟨⟨v35, v36, v37⟩, rfl⟩
        refine qn972 _ _ ?_
        refine gor hn ?_
        refine Or.inr ?_
        refine qn969 _ _ ?_
        refine EOk.done ?_
        exact ⟨⟨(n32, v35, v36, v37, (wr (v22 + (1 : Int)))), h29⟩, [], by show n32 < n32 + 1; omega, ⟨⟨rfl, rfl, rfl, rfl, rfl, rfl, trivial⟩, ⟨rfl, rfl, rfl, rfl, rfl, trivial⟩, rfl, rfl⟩⟩
      · refine goe hn ?_
        refine qx970 _ _ _ ?_
        refine qx969 _ _ _ ?_
        refine qe968 _ _ ?_
        refine qn967 _ _ ?_
        obtain rfl := Option.some.inj h29
        refine EOk.done ?_
        exact ⟨⟨_, rfl⟩, [], trivial, ⟨⟨rfl, rfl, trivial⟩, ⟨rfl, rfl, trivial⟩, rfl, rfl⟩⟩
  rintro ⟨v27, rfl⟩
  refine qn587 _ _ ?_
  refine COk.seqQ fun Q1096 qn1096 qx1096 qr1096 => ?_
  refine gor hn ?_
  refine qn1096 _ _ ?_
  refine got hn ?_
  obtain rfl := Option.some.inj h
  exact ⟨[(0, 19)], _, rfl, (by repeat (first | exact trivial | exact rfl | (refine And.intro ?_ ?_))), ⟨rfl, trivial⟩, rfl, rfl, rfl, rfl, rfl⟩

/- qcref1.Check -/
set_option maxRecDepth 100000 in
set_option maxHeartbeats 1000000 in
theorem qcref1_Check_ok (N : Nat) (a0 : Wd) (a1 : Int) (a2 : Me) (r : TFault) (h : qcref1_Check N a0 a1 a2 = some r) : Spec Try.prog 54 [] [.agg (eWd a0), .int a1, .agg (eMe a2)] (.agg (eTFault r)) [] [] := by
  refine Spec.of tabOk Try.func54 rfl Try.ntmps54 (by kernel_rfl) rfl rfl rfl fun Γ hn => ?_
  unfold qcref1_Check at h
  refine COk.seqQ fun Q70 qn70 qx70 qr70 => ?_
  refine gor hn ?_
  refine qn70 _ _ ?_
  refine COk.seqQ fun Q71 qn71 qx71 qr71 => ?_
  refine COk.seqQ fun Q72 qn72 qx72 qr72 => ?_
  obtain ⟨o3, h2, h⟩ := bindM h
  refine COk.joinR (ι := { s : Bool // o3 = s }) (fun s => [(1, .int a1), (3, .ptr 3 0), (5, .ptr 5 0), (6, .ptr 6 0), (20, .bool s.1)]) (fun s => [(3, .box (eWd a0) 26), (5, .box (eMe a2) 64), (6, .box [.int (0 : Int), .int (0 : Int)] 95)]) (fun Q73 qn73 qx73 qr73 => ?_) (by intro s; rw [hn]; rfl) ?_
  · refine gor hn ?_
    refine bselM h2 (fun hb4 h2 => ?_) (fun hb4 h2 => ?_)
    · refine bselT hb4 ?_
      refine bselT hb4 ?_
      refine bselT hb4 ?_
      refine bselT hb4 ?_
      refine bselT hb4 ?_
      refine qn73 _ _ ?_
      obtain rfl := Option.some.inj h2
      refine EOk.done ?_
      exact ⟨⟨_, rfl⟩, [], trivial, ⟨⟨rfl, rfl, rfl, rfl, rfl, trivial⟩, ⟨rfl, rfl, rfl, trivial⟩, rfl, rfl⟩⟩
    · refine bselF hb4 ?_
      refine bselF hb4 ?_
      refine bselF hb4 ?_
      refine lenM (fun hl5 => ?_)
      refine bselF hb4 ?_
      refine bselF hb4 ?_
      refine qn73 _ _ ?_
      obtain rfl := Option.some.inj h2
      refine EOk.done ?_
      exact ⟨⟨_, rfl⟩, [], trivial, ⟨⟨rfl, rfl, rfl, rfl, rfl, trivial⟩, ⟨rfl, rfl, rfl, trivial⟩, rfl, rfl⟩⟩
  rintro ⟨v1, hv_⟩
  replace hv_ := hv_.symm
  subst hv_
  refine qn72 _ _ ?_
  refine goc hn ?_
  refine bselM h (fun hb6 h => ?_) (fun hb6 h => ?_)
  · refine COk.seqQ fun Q75 qn75 qx75 qr75 => ?_
    refine gor hn ?_
    refine qn75 _ _ ?_
    refine got hn ?_
    refine qr71 _ _ ?_
    obtain rfl := Option.some.inj h
    exact ⟨[], _, rfl, (by repeat (first | exact trivial | exact rfl | (refine And.intro ?_ ?_))), trivial, rfl, rfl, rfl, rfl, rfl⟩
  · refine gok hn ?_
    refine qn71 _ _ ?_
    refine COk.seqQ fun Q76 qn76 qx76 qr76 => ?_
    refine COk.seqQ fun Q77 qn77 qx77 qr77 => ?_
    refine gor hn ?_
    obtain ⟨r7, hr8, h⟩ := bindM h
    show CallOk Try.prog _ _ _ _
    refine CallOk.as (qcref1_Name_ok N a2.name r7 hr8) (by repeat (first | exact trivial | exact rfl | (refine And.intro ?_ ?_))) trivial rfl ?_
    refine qn77 _ _ ?_
    refine goc hn ?_
    refine bselM h (fun hb9 h => ?_) (fun hb9 h => ?_)
    · refine COk.seqQ fun Q79 qn79 qx79 qr79 => ?_
      refine gor hn ?_
      refine qn79 _ _ ?_
      refine got hn ?_
      refine qr76 _ _ ?_
      obtain rfl := Option.some.inj h
      exact ⟨[], _, rfl, (by repeat (first | exact trivial | exact rfl | (refine And.intro ?_ ?_))), trivial, rfl, rfl, rfl, rfl, rfl⟩
    · refine gok hn ?_
      refine qn76 _ _ ?_
      refine COk.seqQ fun Q80 qn80 qx80 qr80 => ?_
      refine COk.seqQ fun Q81 qn81 qx81 qr81 => ?_
      obtain ⟨o12, h11, h⟩ := bindM h
      refine COk.joinR (ι := { s : Bool // o12 = s }) (fun s => [(1, .int a1), (3, .ptr 3 0), (5, .ptr 5 0), (6, .ptr 6 0), (44, .bool s.1)]) (fun s => [(3, .box (eWd a0) 26), (5, .box (eMe a2) 64), (6, .box [.int (0 : Int), .int (0 : Int)] 95)]) (fun Q82 qn82 qx82 qr82 => ?_) (by intro s; rw [hn]; rfl) ?_
      · refine gor hn ?_
        refine bselM h11 (fun hb13 h11 => ?_) (fun hb13 h11 => ?_)
        · refine bselT hb13 ?_
          refine bselT hb13 ?_
          refine bselT hb13 ?_
          refine qn82 _ _ ?_
          obtain rfl := Option.some.inj h11
          refine EOk.done ?_
          exact ⟨⟨_, rfl⟩, [], trivial, ⟨⟨rfl, rfl, rfl, rfl, rfl, trivial⟩, ⟨rfl, rfl, rfl, trivial⟩, rfl, rfl⟩⟩
        · refine bselF hb13 ?_
          refine bselF hb13 ?_
          refine bselF hb13 ?_
          refine bselM h11 (fun hb14 h11 => ?_) (fun hb14 h11 => ?_)
          · refine bselT hb14 ?_
            refine bselT hb14 ?_
            refine bselT hb14 ?_
            refine qn82 _ _ ?_
            obtain rfl := Option.some.inj h11
            refine EOk.done ?_
            exact ⟨⟨_, rfl⟩, [], trivial, ⟨⟨rfl, rfl, rfl, rfl, rfl, trivial⟩, ⟨rfl, rfl, rfl, trivial⟩, rfl, rfl⟩⟩
          · refine bselF hb14 ?_
            refine bselF hb14 ?_
            refine bselF hb14 ?_
            refine bselM h11 (fun hb15 h11 => ?_) (fun hb15 h11 => ?_)
            · refine bselT hb15 ?_
              refine bselT hb15 ?_
              refine bselT hb15 ?_
              refine qn82 _ _ ?_
              obtain rfl := Option.some.inj h11
              refine EOk.done ?_
              exact ⟨⟨_, rfl⟩, [], trivial, ⟨⟨rfl, rfl, rfl, rfl, rfl, trivial⟩, ⟨rfl, rfl, rfl, trivial⟩, rfl, rfl⟩⟩
            · refine bselF hb15 ?_
              refine bselF hb15 ?_
              refine bselF hb15 ?_
              refine qn82 _ _ ?_
              obtain rfl := Option.some.inj h11
              refine EOk.done ?_
              exact ⟨⟨_, rfl⟩, [], trivial, ⟨⟨rfl, rfl, rfl, rfl, rfl, trivial⟩, ⟨rfl, rfl, rfl, trivial⟩, rfl, rfl⟩⟩
      rintro ⟨v10, hv_⟩
      replace hv_ := hv_.symm
      subst hv_
      refine qn81 _ _ ?_
      refine goc hn ?_
      refine bselM h (fun hb16 h => ?_) (fun hb16 h => ?_)
      · refine COk.seqQ fun Q84 qn84 qx84 qr84 => ?_
        refine gor hn ?_
        refine qn84 _ _ ?_
        refine got hn ?_
        refine qr80 _ _ ?_
        obtain rfl := Option.some.inj h
        exact ⟨[], _, rfl, (by repeat (first | exact trivial | exact rfl | (refine And.intro ?_ ?_))), trivial, rfl, rfl, rfl, rfl, rfl⟩
      · refine gok hn ?_
        refine qn80 _ _ ?_
        refine COk.seqQ fun Q85 qn85 qx85 qr85 => ?_
        refine COk.seqQ fun Q86 qn86 qx86 qr86 => ?_
        refine gor hn ?_
        refine qn86 _ _ ?_
        refine goc hn ?_
        refine bselM h (fun hb17 h => ?_) (fun hb17 h => ?_)
        · refine COk.seqQ fun Q88 qn88 qx88 qr88 => ?_
          refine gor hn ?_
          refine qn88 _ _ ?_
          refine got hn ?_
          refine qr85 _ _ ?_
          obtain rfl := Option.some.inj h
          exact ⟨[], _, rfl, (by repeat (first | exact trivial | exact rfl | (refine And.intro ?_ ?_))), trivial, rfl, rfl, rfl, rfl, rfl⟩
        · refine gok hn ?_
          refine qn85 _ _ ?_
          refine COk.seqQ fun Q89 qn89 qx89 qr89 => ?_
          refine COk.seqQ fun Q90 qn90 qx90 qr90 => ?_
          obtain ⟨o20, h19, h⟩ := bindM h
          refine COk.joinR (ι := { s : Bool // o20 = s }) (fun s => [(1, .int a1), (3, .ptr 3 0), (5, .ptr 5 0), (6, .ptr 6 0), (59, .bool s.1)]) (fun s => [(3, .box (eWd a0) 26), (5, .box (eMe a2) 64), (6, .box [.int (0 : Int), .int (0 : Int)] 95)]) (fun Q91 qn91 qx91 qr91 => ?_) (by intro s; rw [hn]; rfl) ?_
          · refine gor hn ?_
            refine lenM (fun hl21 => ?_)
            refine bselM h19 (fun hb22 h19 => ?_) (fun hb22 h19 => ?_)
            · refine bselT hb22 ?_
              refine bselT hb22 ?_
              refine bselT hb22 ?_
              refine bselT hb22 ?_
              refine qn91 _ _ ?_
              obtain rfl := Option.some.inj h19
              refine EOk.done ?_
              exact ⟨⟨_, rfl⟩, [], trivial, ⟨⟨rfl, rfl, rfl, rfl, rfl, trivial⟩, ⟨rfl, rfl, rfl, trivial⟩, rfl, rfl⟩⟩
            · refine bselF hb22 ?_
              refine bselF hb22 ?_
              refine lenM (fun hl23 => ?_)
              refine bselF hb22 ?_
              refine bselF hb22 ?_
              refine qn91 _ _ ?_
              obtain rfl := Option.some.inj h19
              refine EOk.done ?_
              exact ⟨⟨_, rfl⟩, [], trivial, ⟨⟨rfl, rfl, rfl, rfl, rfl, trivial⟩, ⟨rfl, rfl, rfl, trivial⟩, rfl, rfl⟩⟩
          rintro ⟨v18, hv_⟩
          replace hv_ := hv_.symm
          subst hv_
          refine qn90 _ _ ?_
          refine goc hn ?_
          refine bselM h (fun hb24 h => ?_) (fun hb24 h => ?_)
          · refine COk.seqQ fun Q93 qn93 qx93 qr93 => ?_
            refine gor hn ?_
            refine qn93 _ _ ?_
            refine got hn ?_
            refine qr89 _ _ ?_
            obtain rfl := Option.some.inj h
            exact ⟨[], _, rfl, (by repeat (first | exact trivial | exact rfl | (refine And.intro ?_ ?_))), trivial, rfl, rfl, rfl, rfl, rfl⟩
          · refine gok hn ?_
            refine qn89 _ _ ?_
            refine COk.seqQ fun Q94 qn94 qx94 qr94 => ?_
            refine COk.seqQ fun Q95 qn95 qx95 qr95 => ?_
            refine gor hn ?_
            refine lenM (fun hl25 => ?_)
            refine qn95 _ _ ?_
            obtain ⟨o27, h28, h⟩ := bindM h
            refine COk.joinR (ι := { s : Unit // o27 = Ctl.next s }) (fun s => [(5, .ptr 5 0), (6, .ptr 6 0)]) (fun s => [(5, .box (eMe a2) 64), (6, .box [.int (0 : Int), .int (0 : Int)] 95)]) (fun Q118 qn118 qx118 qr118 => ?_) (by intro s; rw [hn]; rfl) ?_
            · refine COk.blkQ fun Q119 qn119 qe119 qx119 qr119 => ?_
              refine COk.loopQ (ι := { q : ((List Ins) × Nat) // q.1 = a2.code.drop q.2 ∧ qcref1_Check_l1 N a0 a1 a2 q.1 q.2 = some o27 }) (fun q => [(1, .int a1), (3, .ptr 3 0), (5, .ptr 5 0), (6, .ptr 6 0), (62, .sl 5 (List.map eIns a2.code)), (63, .int (a2.code.length : Int)), (64, .int (q.1.2 : Int))]) (fun q => [(3, .box (eWd a0) 26), (5, .box (eMe a2) 64), (6, .box [.int (0 : Int), .int (0 : Int)] 95)]) (fun q => q.1.1.length) ⟨(a2.code, 0), rfl, h28⟩ [] ⟨⟨rfl, rfl, rfl, rfl, (by repeat (first | exact trivial | exact rfl | (refine And.intro ?_ ?_))), rfl, rfl, trivial⟩, ⟨rfl, rfl, rfl, trivial⟩, rfl, rfl⟩ (by intro q; rw [hn]; rfl) ?_
              rintro ⟨⟨rest_, k26⟩, hd30, h28⟩ Q120 qn120 qx120 qr120
              replace hd30 : rest_ = a2.code.drop k26 := hd30
              rcases rest_ with _ | ⟨x32, rest29⟩
              · have hlt34 := restNil hd30
                replace h28 := (qcref1_Check_l1.eq_1 _ _ _ _ _).symm.trans h28
                refine COk.seqQ fun Q121 qn121 qx121 qr121 => ?_
                refine gor hn ?_
                refine qn121 _ _ ?_
                refine COk.seqQ fun Q122 qn122 qx122 qr122 => ?_
                refine goc hn ?_
                refine bselF hlt34 ?_
                refine goe hn ?_
                refine qx122 _ _ _ ?_
                refine qx120 _ _ _ ?_
                refine qe119 _ _ ?_
                refine qn118 _ _ ?_
                obtain rfl := Option.some.inj h28
                refine EOk.done ?_
                exact ⟨⟨_, rfl⟩, [], trivial, ⟨⟨rfl, rfl, trivial⟩, ⟨rfl, rfl, trivial⟩, rfl, rfl⟩⟩
              · obtain ⟨hx33, hd2, hlt34⟩ := restCons hd30
                replace h28 := (qcref1_Check_l1.eq_2 _ _ _ _ _ _ _).symm.trans h28
                refine COk.seqQ fun Q123 qn123 qx123 qr123 => ?_
                refine gor hn ?_
                refine qn123 _ _ ?_
                refine COk.seqQ fun Q124 qn124 qx124 qr124 => ?_
                refine goc hn ?_
                refine bselT hlt34 ?_
                refine gok hn ?_
                refine qn124 _ _ ?_
                refine COk.seqQ fun Q125 qn125 qx125 qr125 => ?_
                refine COk.blkQ fun Q132 qn132 qe132 qx132 qr132 => ?_
                refine COk.seqQ fun Q133 qn133 qx133 qr133 => ?_
                refine gor hn ?_
                refine idxK hx33 ?_
                refine qn133 _ _ ?_
                refine COk.seqQ fun Q134 qn134 qx134 qr134 => ?_
                refine gor hn ?_
                obtain ⟨r35, hr36, h28⟩ := bindM h28
                show CallOk Try.prog _ _ _ _
                refine CallOk.as (qcref1_Numbers_ok N a0 a1 a2 x32 r35 hr36) (by repeat (first | exact trivial | exact rfl | (refine And.intro ?_ ?_))) trivial rfl ?_
                refine qn134 _ _ ?_
                refine COk.seqQ fun Q135 qn135 qx135 qr135 => ?_
                refine COk.sub (ts2 := [(1, .int a1), (3, .ptr 3 0), (5, .ptr 5 0), (6, .ptr 6 0), (7, .int (k26 : Int)), (9, .int r35), (62, .sl 5 (List.map eIns a2.code)), (63, .int (a2.code.length : Int)), (64, .int (k26 : Int))]) (os2 := [(3, .box (eWd a0) 26), (5, .box (eMe a2) 64), (6, .box [.int (0 : Int), .int (0 : Int)] 95)]) [] ⟨⟨rfl, rfl, rfl, rfl, rfl, rfl, (by repeat (first | exact trivial | exact rfl | (refine And.intro ?_ ?_))), rfl, rfl, trivial⟩, ⟨rfl, rfl, rfl, trivial⟩, rfl, rfl⟩ (by rw [hn]; rfl) ?_
                refine gor hn ?_
                refine qn135 _ _ ?_
                refine goc hn ?_
                refine bselM h28 (fun hb37 h28 => ?_) (fun hb37 h28 => ?_)
                · refine COk.seqQ fun Q136 qn136 qx136 qr136 => ?_
                  refine gor hn ?_
                  refine qn136 _ _ ?_
                  refine got hn ?_
                  refine qr132 _ _ ?_
                  refine qr125 _ _ ?_
                  refine qr120 _ _ ?_
                  refine qr119 _ _ ?_
                  refine qr118 _ _ ?_
                  refine qr94 _ _ ?_
                  obtain rfl := Option.some.inj h28
                  obtain rfl := Option.some.inj h
                  exact ⟨[], _, rfl, (by repeat (first | exact trivial | exact rfl | (refine And.intro ?_ ?_))), trivial, rfl, rfl, rfl, rfl, rfl⟩
                · refine gok hn ?_
                  refine qn132 _ _ ?_
                  refine qn125 _ _ ?_
                  refine gor hn ?_
                  refine Or.inl (And.intro (inrK hx33 hl25) ?_)
                  refine qn120 _ _ ?_
                  refine EOk.done ?_
                  exact ⟨⟨(rest29, k26 + 1), hd2, h28⟩, [], by show rest29.length < rest29.length + 1; omega, ⟨⟨rfl, rfl, rfl, rfl, (by repeat (first | exact trivial | exact rfl | (refine And.intro ?_ ?_))), rfl, rfl, trivial⟩, ⟨rfl, rfl, rfl, trivial⟩, rfl, rfl⟩⟩
            rintro ⟨⟨⟩, rfl⟩
            refine qn94 _ _ ?_
            refine COk.seqQ fun Q137 qn137 qx137 qr137 => ?_
            refine gor hn ?_
            obtain ⟨r38, hr39, h⟩ := bindM h
            show CallOk Try.prog _ _ _ _
            refine CallOk.as ((qcref1_Heights_ok N a2 r38 hr39).sw 0 82) (by repeat (first | exact trivial | exact rfl | (refine And.intro ?_ ?_))) trivial rfl ?_
            refine qn137 _ _ ?_
            refine COk.seqQ fun Q138 qn138 qx138 qr138 => ?_
            refine gor hn ?_
            refine qn138 _ _ ?_
            refine got hn ?_
            obtain rfl := Option.some.inj h
            exact ⟨[], _, rfl, (by repeat (first | exact trivial | exact rfl | (refine And.intro ?_ ?_))), trivial, rfl, rfl, rfl, rfl, rfl⟩

/- qcref1.Wrong -/
set_option maxRecDepth 100000 in
set_option maxHeartbeats 1000000 in
theorem qcref1_Wrong_ok (N : Nat) (a0 : V) (a1 : Int) (r : Int) (h : qcref1_Wrong N a0 a1 = some r) : Spec Try.prog 55 [] [.agg (eV a0), .int a1] (.int r) [] [] := by
  refine Spec.of tabOk Try.func55 rfl Try.ntmps55 (by kernel_rfl) rfl rfl rfl fun Γ hn => ?_
  unfold qcref1_Wrong at h
  refine COk.seqQ fun Q23 qn23 qx23 qr23 => ?_
  refine gor hn ?_
  refine qn23 _ _ ?_
  refine COk.seqQ fun Q24 qn24 qx24 qr24 => ?_
  refine COk.seqQ fun Q25 qn25 qx25 qr25 => ?_
  obtain ⟨o3, h2, h⟩ := bindM h
  refine COk.joinR (ι := { s : Bool // o3 = s }) (fun s => [(1, .int a1), (2, .ptr 2 0), (12, .bool s.1)]) (fun s => [(2, .box (eV a0) 101)]) (fun Q26 qn26 qx26 qr26 => ?_) (by intro s; rw [hn]; rfl) ?_
  · refine gor hn ?_
    refine bselM h2 (fun hb4 h2 => ?_) (fun hb4 h2 => ?_)
    · refine bselT hb4 ?_
      refine bselT hb4 ?_
      refine bselT hb4 ?_
      refine qn26 _ _ ?_
      obtain rfl := Option.some.inj h2
      refine EOk.done ?_
      exact ⟨⟨_, rfl⟩, [], trivial, ⟨⟨rfl, rfl, rfl, trivial⟩, ⟨rfl, trivial⟩, rfl, rfl⟩⟩
    · refine bselF hb4 ?_
      refine bselF hb4 ?_
      refine bselF hb4 ?_
      refine qn26 _ _ ?_
      obtain rfl := Option.some.inj h2
      refine EOk.done ?_
      exact ⟨⟨_, rfl⟩, [], trivial, ⟨⟨rfl, rfl, rfl, trivial⟩, ⟨rfl, trivial⟩, rfl, rfl⟩⟩
  rintro ⟨v1, hv_⟩
  replace hv_ := hv_.symm
  subst hv_
  refine qn25 _ _ ?_
  refine goc hn ?_
  refine bselM h (fun hb5 h => ?_) (fun hb5 h => ?_)
  · refine COk.seqQ fun Q28 qn28 qx28 qr28 => ?_
    refine gor hn ?_
    refine qn28 _ _ ?_
    refine got hn ?_
    refine qr24 _ _ ?_
    obtain rfl := Option.some.inj h
    exact ⟨[], _, rfl, (by repeat (first | exact trivial | exact rfl | (refine And.intro ?_ ?_))), trivial, rfl, rfl, rfl, rfl, rfl⟩
  · refine gok hn ?_
    refine qn24 _ _ ?_
    refine COk.seqQ fun Q29 qn29 qx29 qr29 => ?_
    refine COk.seqQ fun Q30 qn30 qx30 qr30 => ?_
    obtain ⟨o8, h7, h⟩ := bindM h
    refine COk.joinR (ι := { s : Bool // o8 = s }) (fun s => [(1, .int a1), (2, .ptr 2 0), (20, .bool s.1)]) (fun s => [(2, .box (eV a0) 101)]) (fun Q31 qn31 qx31 qr31 => ?_) (by intro s; rw [hn]; rfl) ?_
    · refine gor hn ?_
      refine bselM h7 (fun hb9 h7 => ?_) (fun hb9 h7 => ?_)
      · refine bselT hb9 ?_
        refine bselT hb9 ?_
        refine bselT hb9 ?_
        refine qn31 _ _ ?_
        obtain rfl := Option.some.inj h7
        refine EOk.done ?_
        exact ⟨⟨_, rfl⟩, [], trivial, ⟨⟨rfl, rfl, rfl, trivial⟩, ⟨rfl, trivial⟩, rfl, rfl⟩⟩
      · refine bselF hb9 ?_
        refine bselF hb9 ?_
        refine bselF hb9 ?_
        refine qn31 _ _ ?_
        obtain rfl := Option.some.inj h7
        refine EOk.done ?_
        exact ⟨⟨_, rfl⟩, [], trivial, ⟨⟨rfl, rfl, rfl, trivial⟩, ⟨rfl, trivial⟩, rfl, rfl⟩⟩
    rintro ⟨v6, hv_⟩
    replace hv_ := hv_.symm
    subst hv_
    refine qn30 _ _ ?_
    refine goc hn ?_
    refine bselM h (fun hb10 h => ?_) (fun hb10 h => ?_)
    · refine COk.seqQ fun Q33 qn33 qx33 qr33 => ?_
      refine gor hn ?_
      refine qn33 _ _ ?_
      refine got hn ?_
      refine qr29 _ _ ?_
      obtain rfl := Option.some.inj h
      exact ⟨[], _, rfl, (by repeat (first | exact trivial | exact rfl | (refine And.intro ?_ ?_))), trivial, rfl, rfl, rfl, rfl, rfl⟩
    · refine gok hn ?_
      refine qn29 _ _ ?_
      refine COk.seqQ fun Q34 qn34 qx34 qr34 => ?_
      refine COk.seqQ fun Q35 qn35 qx35 qr35 => ?_
      obtain ⟨o13, h12, h⟩ := bindM h
      refine COk.joinR (ι := { s : Bool // o13 = s }) (fun s => [(1, .int a1), (2, .ptr 2 0), (33, .bool s.1)]) (fun s => [(2, .box (eV a0) 101)]) (fun Q36 qn36 qx36 qr36 => ?_) (by intro s; rw [hn]; rfl) ?_
      · refine gor hn ?_
        refine bselM h12 (fun hb14 h12 => ?_) (fun hb14 h12 => ?_)
        · refine bselT hb14 ?_
          refine bselT hb14 ?_
          refine bselT hb14 ?_
          refine bselM h12 (fun hb15 h12 => ?_) (fun hb15 h12 => ?_)
          · refine bselT hb15 ?_
            refine bselT hb15 ?_
            refine bselT hb14 ?_
            refine bselT hb15 ?_
            refine bselT hb14 ?_
            refine qn36 _ _ ?_
            obtain rfl := Option.some.inj h12
            refine EOk.done ?_
            exact ⟨⟨_, rfl⟩, [], trivial, ⟨⟨rfl, rfl, rfl, trivial⟩, ⟨rfl, trivial⟩, rfl, rfl⟩⟩
          · refine bselF hb15 ?_
            refine bselF hb15 ?_
            refine bselT hb14 ?_
            refine bselF hb15 ?_
            refine bselT hb14 ?_
            refine qn36 _ _ ?_
            obtain rfl := Option.some.inj h12
            refine EOk.done ?_
            exact ⟨⟨_, rfl⟩, [], trivial, ⟨⟨rfl, rfl, rfl, trivial⟩, ⟨rfl, trivial⟩, rfl, rfl⟩⟩
        · refine bselF hb14 ?_
          refine bselF hb14 ?_
          refine bselF hb14 ?_
          refine bselF hb14 ?_
          refine bselF hb14 ?_
          refine qn36 _ _ ?_
          obtain rfl := Option.some.inj h12
          refine EOk.done ?_
          exact ⟨⟨_, rfl⟩, [], trivial, ⟨⟨rfl, rfl, rfl, trivial⟩, ⟨rfl, trivial⟩, rfl, rfl⟩⟩
      rintro ⟨v11, hv_⟩
      replace hv_ := hv_.symm
      subst hv_
      refine qn35 _ _ ?_
      refine goc hn ?_
      refine bselM h (fun hb16 h => ?_) (fun hb16 h => ?_)
      · refine COk.seqQ fun Q38 qn38 qx38 qr38 => ?_
        refine gor hn ?_
        refine qn38 _ _ ?_
        refine got hn ?_
        refine qr34 _ _ ?_
        obtain rfl := Option.some.inj h
        exact ⟨[], _, rfl, (by repeat (first | exact trivial | exact rfl | (refine And.intro ?_ ?_))), trivial, rfl, rfl, rfl, rfl, rfl⟩
      · refine gok hn ?_
        refine qn34 _ _ ?_
        refine COk.seqQ fun Q39 qn39 qx39 qr39 => ?_
        refine COk.seqQ fun Q40 qn40 qx40 qr40 => ?_
        obtain ⟨o19, h18, h⟩ := bindM h
        refine COk.joinR (ι := { s : Bool // o19 = s }) (fun s => [(47, .bool s.1)]) (fun s => []) (fun Q41 qn41 qx41 qr41 => ?_) (by intro s; rw [hn]; rfl) ?_
        · refine gor hn ?_
          refine bselM h18 (fun hb20 h18 => ?_) (fun hb20 h18 => ?_)
          · refine bselT hb20 ?_
            refine bselT hb20 ?_
            refine bselT hb20 ?_
            refine bselM h18 (fun hb21 h18 => ?_) (fun hb21 h18 => ?_)
            · refine bselT hb21 ?_
              refine bselT hb21 ?_
              refine bselT hb21 ?_
              refine bselT hb20 ?_
              refine bselT hb21 ?_
              refine bselT hb20 ?_
              refine qn41 _ _ ?_
              obtain rfl := Option.some.inj h18
              refine EOk.done ?_
              exact ⟨⟨_, rfl⟩, [], trivial, ⟨⟨rfl, trivial⟩, trivial, rfl, rfl⟩⟩
            · refine bselF hb21 ?_
              refine bselF hb21 ?_
              refine bselF hb21 ?_
              refine bselT hb20 ?_
              refine bselF hb21 ?_
              refine bselT hb20 ?_
              refine qn41 _ _ ?_
              obtain rfl := Option.some.inj h18
              refine EOk.done ?_
              exact ⟨⟨_, rfl⟩, [], trivial, ⟨⟨rfl, trivial⟩, trivial, rfl, rfl⟩⟩
          · refine bselF hb20 ?_
            refine bselF hb20 ?_
            refine bselF hb20 ?_
            refine bselF hb20 ?_
            refine bselF hb20 ?_
            refine qn41 _ _ ?_
            obtain rfl := Option.some.inj h18
            refine EOk.done ?_
            exact ⟨⟨_, rfl⟩, [], trivial, ⟨⟨rfl, trivial⟩, trivial, rfl, rfl⟩⟩
        rintro ⟨v17, hv_⟩
        replace hv_ := hv_.symm
        subst hv_
        refine qn40 _ _ ?_
        refine goc hn ?_
        refine bselM h (fun hb22 h => ?_) (fun hb22 h => ?_)
        · refine COk.seqQ fun Q43 qn43 qx43 qr43 => ?_
          refine gor hn ?_
          refine qn43 _ _ ?_
          refine got hn ?_
          refine qr39 _ _ ?_
          obtain rfl := Option.some.inj h
          exact ⟨[], _, rfl, (by repeat (first | exact trivial | exact rfl | (refine And.intro ?_ ?_))), trivial, rfl, rfl, rfl, rfl, rfl⟩
        · refine gok hn ?_
          refine qn39 _ _ ?_
          refine COk.seqQ fun Q44 qn44 qx44 qr44 => ?_
          refine gor hn ?_
          refine qn44 _ _ ?_
          refine got hn ?_
          obtain rfl := Option.some.inj h
          exact ⟨[], _, rfl, (by repeat (first | exact trivial | exact rfl | (refine And.intro ?_ ?_))), trivial, rfl, rfl, rfl, rfl, rfl⟩

/- qcref1.Right -/
set_option maxRecDepth 100000 in
set_option maxHeartbeats 1000000 in
theorem qcref1_Right_ok (N : Nat) (a0 : Wd) (r : Int) (h : qcref1_Right N a0 = some r) : Spec Try.prog 23 [] [.agg (eWd a0)] (.int r) [] [] := by
  refine Spec.of tabOk Try.func23 rfl Try.ntmps23 (by kernel_rfl) rfl rfl rfl fun Γ hn => ?_
  unfold qcref1_Right at h
  refine COk.seqQ fun Q1570 qn1570 qx1570 qr1570 => ?_
  refine gor hn ?_
  refine qn1570 _ _ ?_
  refine COk.seqQ fun Q1571 qn1571 qx1571 qr1571 => ?_
  refine gor hn ?_
  obtain ⟨r1, hr2, h⟩ := bindM h
  show CallOk Try.prog _ _ _ _
  refine CallOk.as (qcref1_New_ok N  r1 hr2) (by repeat (first | exact trivial | exact rfl | (refine And.intro ?_ ?_))) trivial rfl ?_
  refine qn1571 _ _ ?_
  refine COk.seqQ fun Q1572 qn1572 qx1572 qr1572 => ?_
  refine COk.seqQ fun Q1573 qn1573 qx1573 qr1573 => ?_
  obtain ⟨o5, h4, h⟩ := bindM h
  refine COk.joinR (ι := { s : Bool // o5 = s }) (fun s => [(1, .ptr 1 0), (3, .ptr 3 0), (39, .bool s.1)]) (fun s => [(1, .box (eWd a0) 26), (3, .box (eWd r1) 26)]) (fun Q1574 qn1574 qx1574 qr1574 => ?_) (by intro s; rw [hn]; rfl) ?_
  · refine gor hn ?_
    refine lenM (fun hl6 => ?_)
    refine bselM h4 (fun hb7 h4 => ?_) (fun hb7 h4 => ?_)
    · refine bselT hb7 ?_
      refine bselT hb7 ?_
      refine bselT hb7 ?_
      refine bselT hb7 ?_
      refine qn1574 _ _ ?_
      obtain rfl := Option.some.inj h4
      refine EOk.done ?_
      exact ⟨⟨_, rfl⟩, [], trivial, ⟨⟨rfl, rfl, rfl, trivial⟩, ⟨rfl, rfl, trivial⟩, rfl, rfl⟩⟩
    · refine bselF hb7 ?_
      refine bselF hb7 ?_
      refine lenM (fun hl8 => ?_)
      refine bselF hb7 ?_
      refine bselF hb7 ?_
      refine bselM h4 (fun hb9 h4 => ?_) (fun hb9 h4 => ?_)
      · refine bselT hb9 ?_
        refine bselT hb9 ?_
        refine bselT hb9 ?_
        refine bselT hb9 ?_
        refine qn1574 _ _ ?_
        obtain rfl := Option.some.inj h4
        refine EOk.done ?_
        exact ⟨⟨_, rfl⟩, [], trivial, ⟨⟨rfl, rfl, rfl, trivial⟩, ⟨rfl, rfl, trivial⟩, rfl, rfl⟩⟩
      · refine bselF hb9 ?_
        refine bselF hb9 ?_
        refine lenM (fun hl10 => ?_)
        refine bselF hb9 ?_
        refine bselF hb9 ?_
        refine qn1574 _ _ ?_
        obtain rfl := Option.some.inj h4
        refine EOk.done ?_
        exact ⟨⟨_, rfl⟩, [], trivial, ⟨⟨rfl, rfl, rfl, trivial⟩, ⟨rfl, rfl, trivial⟩, rfl, rfl⟩⟩
  rintro ⟨v3, hv_⟩
  replace hv_ := hv_.symm
  subst hv_
  refine qn1573 _ _ ?_
  refine goc hn ?_
  refine bselM h (fun hb11 h => ?_) (fun hb11 h => ?_)
  · refine COk.seqQ fun Q1576 qn1576 qx1576 qr1576 => ?_
    refine gor hn ?_
    refine qn1576 _ _ ?_
    refine got hn ?_
    refine qr1572 _ _ ?_
    obtain rfl := Option.some.inj h
    exact ⟨[], _, rfl, (by repeat (first | exact trivial | exact rfl | (refine And.intro ?_ ?_))), trivial, rfl, rfl, rfl, rfl, rfl⟩
  · refine gok hn ?_
    refine qn1572 _ _ ?_
    refine COk.seqQ fun Q1577 qn1577 qx1577 qr1577 => ?_
    refine COk.seqQ fun Q1578 qn1578 qx1578 qr1578 => ?_
    obtain ⟨o14, h13, h⟩ := bindM h
    refine COk.joinR (ι := { s : Bool // o14 = s }) (fun s => [(1, .ptr 1 0), (3, .ptr 3 0), (47, .bool s.1)]) (fun s => [(1, .box (eWd a0) 26), (3, .box (eWd r1) 26)]) (fun Q1579 qn1579 qx1579 qr1579 => ?_) (by intro s; rw [hn]; rfl) ?_
    · refine gor hn ?_
      refine bselM h13 (fun hb15 h13 => ?_) (fun hb15 h13 => ?_)
      · refine bselT hb15 ?_
        refine bselT hb15 ?_
        refine bselT hb15 ?_
        refine qn1579 _ _ ?_
        obtain rfl := Option.some.inj h13
        refine EOk.done ?_
        exact ⟨⟨_, rfl⟩, [], trivial, ⟨⟨rfl, rfl, rfl, trivial⟩, ⟨rfl, rfl, trivial⟩, rfl, rfl⟩⟩
      · refine bselF hb15 ?_
        refine bselF hb15 ?_
        refine bselF hb15 ?_
        refine qn1579 _ _ ?_
        obtain rfl := Option.some.inj h13
        refine EOk.done ?_
        exact ⟨⟨_, rfl⟩, [], trivial, ⟨⟨rfl, rfl, rfl, trivial⟩, ⟨rfl, rfl, trivial⟩, rfl, rfl⟩⟩
    rintro ⟨v12, hv_⟩
    replace hv_ := hv_.symm
    subst hv_
    refine qn1578 _ _ ?_
    refine goc hn ?_
    refine bselM h (fun hb16 h => ?_) (fun hb16 h => ?_)
    · refine COk.seqQ fun Q1581 qn1581 qx1581 qr1581 => ?_
      refine gor hn ?_
      refine qn1581 _ _ ?_
      refine got hn ?_
      refine qr1577 _ _ ?_
      obtain rfl := Option.some.inj h
      exact ⟨[], _, rfl, (by repeat (first | exact trivial | exact rfl | (refine And.intro ?_ ?_))), trivial, rfl, rfl, rfl, rfl, rfl⟩
    · refine gok hn ?_
      refine qn1577 _ _ ?_
      refine COk.seqQ fun Q1582 qn1582 qx1582 qr1582 => ?_
      refine COk.seqQ fun Q1583 qn1583 qx1583 qr1583 => ?_
      refine gor hn ?_
      refine lenM (fun hl17 => ?_)
      refine qn1583 _ _ ?_
      obtain ⟨o19, h20, h⟩ := bindM h
      refine COk.joinR (ι := { s : Unit // o19 = Ctl.next s }) (fun s => [(1, .ptr 1 0), (3, .ptr 3 0)]) (fun s => [(1, .box (eWd a0) 26), (3, .box (eWd r1) 26)]) (fun Q1753 qn1753 qx1753 qr1753 => ?_) (by intro s; rw [hn]; rfl) ?_
      · refine COk.blkQ fun Q1754 qn1754 qe1754 qx1754 qr1754 => ?_
        refine COk.loopQ (ι := { q : ((List Cl) × Nat) // q.1 = a0.classes.drop q.2 ∧ qcref1_Right_l1 N a0 r1 q.1 q.2 = some o19 }) (fun q => [(1, .ptr 1 0), (3, .ptr 3 0), (49, .sl 4 (List.map eCl a0.classes)), (50, .int (a0.classes.length : Int)), (51, .int (q.1.2 : Int))]) (fun q => [(1, .box (eWd a0) 26), (3, .box (eWd r1) 26)]) (fun q => q.1.1.length) ⟨(a0.classes, 0), rfl, h20⟩ [] ⟨⟨rfl, rfl, (by repeat (first | exact trivial | exact rfl | (refine And.intro ?_ ?_))), rfl, rfl, trivial⟩, ⟨rfl, rfl, trivial⟩, rfl, rfl⟩ (by intro q; rw [hn]; rfl) ?_
        rintro ⟨⟨rest_, k18⟩, hd22, h20⟩ Q1755 qn1755 qx1755 qr1755
        replace hd22 : rest_ = a0.classes.drop k18 := hd22
        rcases rest_ with _ | ⟨x24, rest21⟩
        · have hlt26 := restNil hd22
          replace h20 := (qcref1_Right_l1.eq_1 _ _ _ _).symm.trans h20
          refine COk.seqQ fun Q1756 qn1756 qx1756 qr1756 => ?_
          refine gor hn ?_
          refine qn1756 _ _ ?_
          refine COk.seqQ fun Q1757 qn1757 qx1757 qr1757 => ?_
          refine goc hn ?_
          refine bselF hlt26 ?_
          refine goe hn ?_
          refine qx1757 _ _ _ ?_
          refine qx1755 _ _ _ ?_
          refine qe1754 _ _ ?_
          refine qn1753 _ _ ?_
          obtain rfl := Option.some.inj h20
          refine EOk.done ?_
          exact ⟨⟨_, rfl⟩, [], trivial, ⟨⟨rfl, rfl, trivial⟩, ⟨rfl, rfl, trivial⟩, rfl, rfl⟩⟩
        · obtain ⟨hx25, hd2, hlt26⟩ := restCons hd22
          replace h20 := (qcref1_Right_l1.eq_2 _ _ _ _ _ _).symm.trans h20
          refine COk.seqQ fun Q1758 qn1758 qx1758 qr1758 => ?_
          refine gor hn ?_
          refine qn1758 _ _ ?_
          refine COk.seqQ fun Q1759 qn1759 qx1759 qr1759 => ?_
          refine goc hn ?_
          refine bselT hlt26 ?_
          refine gok hn ?_
          refine qn1759 _ _ ?_
          refine COk.seqQ fun Q1760 qn1760 qx1760 qr1760 => ?_
          refine COk.blkQ fun Q1830 qn1830 qe1830 qx1830 qr1830 => ?_
          refine COk.seqQ fun Q1831 qn1831 qx1831 qr1831 => ?_
          refine gor hn ?_
          refine idxK hx25 ?_
          refine qn1831 _ _ ?_
          refine COk.seqQ fun Q1832 qn1832 qx1832 qr1832 => ?_
          refine COk.seqQ fun Q1833 qn1833 qx1833 qr1833 => ?_
          obtain ⟨o29, h28, h20⟩ := bindM h20
          refine COk.joinR (ι := { s : Bool // o29 = s }) (fun s => [(1, .ptr 1 0), (3, .ptr 3 0), (4, .int (k18 : Int)), (5, .ptr 5 0), (49, .sl 4 (List.map eCl a0.classes)), (50, .int (a0.classes.length : Int)), (51, .int (k18 : Int)), (74, .bool s.1)]) (fun s => [(1, .box (eWd a0) 26), (3, .box (eWd r1) 26), (5, .box (eCl x24) 60)]) (fun Q1834 qn1834 qx1834 qr1834 => ?_) (by intro s; rw [hn]; rfl) ?_
          · refine COk.sub (ts2 := [(1, .ptr 1 0), (3, .ptr 3 0), (4, .int (k18 : Int)), (5, .ptr 5 0), (49, .sl 4 (List.map eCl a0.classes)), (50, .int (a0.classes.length : Int)), (51, .int (k18 : Int))]) (os2 := [(1, .box (eWd a0) 26), (3, .box (eWd r1) 26), (5, .box (eCl x24) 60)]) [] ⟨⟨rfl, rfl, rfl, rfl, (by repeat (first | exact trivial | exact rfl | (refine And.intro ?_ ?_))), rfl, rfl, trivial⟩, ⟨rfl, rfl, rfl, trivial⟩, rfl, rfl⟩ (by rw [hn]; rfl) ?_
            refine god hn (by kernel_rfl) ?_
            obtain ⟨r30, hr31, h28⟩ := bindM h28
            show CallOk Try.prog _ _ _ _
            refine CallOk.as (qcref1_Name_ok N x24.name r30 hr31) (by repeat (first | exact trivial | exact rfl | (refine And.intro ?_ ?_))) trivial rfl ?_
            refine bselM h28 (fun hb32 h28 => ?_) (fun hb32 h28 => ?_)
            · refine bselT hb32 ?_
              refine bselT hb32 ?_
              refine bselT hb32 ?_
              refine bselT hb32 ?_
              refine qn1834 _ _ ?_
              obtain rfl := Option.some.inj h28
              refine EOk.done ?_
              exact ⟨⟨_, rfl⟩, [], trivial, ⟨⟨rfl, rfl, rfl, rfl, (by repeat (first | exact trivial | exact rfl | (refine And.intro ?_ ?_))), rfl, rfl, rfl, trivial⟩, ⟨rfl, rfl, rfl, trivial⟩, rfl, rfl⟩⟩
            · refine bselF hb32 ?_
              refine bselF hb32 ?_
              refine bselM h28 (fun hb33 h28 => ?_) (fun hb33 h28 => ?_)
              · refine bselT hb33 ?_
                refine bselT hb33 ?_
                refine bselT hb33 ?_
                refine bselT hb33 ?_
                refine bselT hb33 ?_
                obtain ⟨x34, hx35, h28⟩ := bindM h28
                refine idxM hx35 ?_
                refine bselT hb33 ?_
                refine bselT hb33 ?_
                refine bselT hb33 ?_
                refine bselF hb32 ?_
                refine bselT hb33 ?_
                refine bselF hb32 ?_
                refine qn1834 _ _ ?_
                obtain rfl := Option.some.inj h28
                refine EOk.done ?_
                exact ⟨⟨_, rfl⟩, [], trivial, ⟨⟨rfl, rfl, rfl, rfl, (by repeat (first | exact trivial | exact rfl | (refine And.intro ?_ ?_))), rfl, rfl, rfl, trivial⟩, ⟨rfl, rfl, rfl, trivial⟩, rfl, rfl⟩⟩
              · refine bselF hb33 ?_
                refine bselF hb33 ?_
                refine bselF hb33 ?_
                refine bselF hb33 ?_
                refine bselF hb33 ?_
                refine bselF hb33 ?_
                refine bselF hb33 ?_
                refine bselF hb33 ?_
                refine bselF hb32 ?_
                refine bselF hb33 ?_
                refine bselF hb32 ?_
                refine qn1834 _ _ ?_
                obtain rfl := Option.some.inj h28
                refine EOk.done ?_
                exact ⟨⟨_, rfl⟩, [], trivial, ⟨⟨rfl, rfl, rfl, rfl, (by repeat (first | exact trivial | exact rfl | (refine And.intro ?_ ?_))), rfl, rfl, rfl, trivial⟩, ⟨rfl, rfl, rfl, trivial⟩, rfl, rfl⟩⟩
          rintro ⟨v27, hv_⟩
          replace hv_ := hv_.symm
          subst hv_
          refine qn1833 _ _ ?_
          refine goc hn ?_
          refine bselM h20 (fun hb36 h20 => ?_) (fun hb36 h20 => ?_)
          · refine COk.seqQ fun Q1835 qn1835 qx1835 qr1835 => ?_
            refine gor hn ?_
            refine qn1835 _ _ ?_
            refine got hn ?_
            refine qr1832 _ _ ?_
            refine qr1830 _ _ ?_
            refine qr1760 _ _ ?_
            refine qr1755 _ _ ?_
            refine qr1754 _ _ ?_
            refine qr1753 _ _ ?_
            refine qr1582 _ _ ?_
            obtain rfl := Option.some.inj h20
            obtain rfl := Option.some.inj h
            exact ⟨[], _, rfl, (by repeat (first | exact trivial | exact rfl | (refine And.intro ?_ ?_))), trivial, rfl, rfl, rfl, rfl, rfl⟩
          · refine gok hn ?_
            refine qn1832 _ _ ?_
            refine COk.seqQ fun Q1836 qn1836 qx1836 qr1836 => ?_
            refine COk.seqQ fun Q1837 qn1837 qx1837 qr1837 => ?_
            refine gor hn ?_
            obtain ⟨hg37, h20⟩ := guardM h20
            refine takeM hg37 rfl rfl ?_
            refine lenM (fun hl38 => ?_)
            refine qn1837 _ _ ?_
            obtain ⟨o40, h41, h20⟩ := bindM h20
            refine COk.joinR (ι := { s : Unit // o40 = Ctl.next s }) (fun s => [(1, .ptr 1 0), (3, .ptr 3 0), (4, .int (k18 : Int)), (5, .ptr 5 0), (49, .sl 4 (List.map eCl a0.classes)), (50, .int (a0.classes.length : Int)), (51, .int (k18 : Int))]) (fun s => [(1, .box (eWd a0) 26), (3, .box (eWd r1) 26), (5, .box (eCl x24) 60)]) (fun Q1852 qn1852 qx1852 qr1852 => ?_) (by intro s; rw [hn]; rfl) ?_
            · refine COk.blkQ fun Q1853 qn1853 qe1853 qx1853 qr1853 => ?_
              refine COk.loopQ (ι := { q : ((List Cl) × Nat) // q.1 = (a0.classes.take (k18 : Int).toNat).drop q.2 ∧ qcref1_Right_l2 N x24 q.1 q.2 = some o40 }) (fun q => [(1, .ptr 1 0), (3, .ptr 3 0), (4, .int (k18 : Int)), (5, .ptr 5 0), (49, .sl 4 (List.map eCl a0.classes)), (50, .int (a0.classes.length : Int)), (51, .int (k18 : Int)), (78, .sl 4 (List.map eCl (a0.classes.take (k18 : Int).toNat))), (79, .int ((a0.classes.take (k18 : Int).toNat).length : Int)), (80, .int (q.1.2 : Int))]) (fun q => [(1, .box (eWd a0) 26), (3, .box (eWd r1) 26), (5, .box (eCl x24) 60)]) (fun q => q.1.1.length) ⟨((a0.classes.take (k18 : Int).toNat), 0), rfl, h41⟩ [] ⟨⟨rfl, rfl, rfl, rfl, (by repeat (first | exact trivial | exact rfl | (refine And.intro ?_ ?_))), rfl, rfl, (by repeat (first | exact trivial | exact rfl | (refine And.intro ?_ ?_))), rfl, rfl, trivial⟩, ⟨rfl, rfl, rfl, trivial⟩, rfl, rfl⟩ (by intro q; rw [hn]; rfl) ?_
              rintro ⟨⟨rest_, k39⟩, hd43, h41⟩ Q1854 qn1854 qx1854 qr1854
              replace hd43 : rest_ = (a0.classes.take (k18 : Int).toNat).drop k39 := hd43
              rcases rest_ with _ | ⟨x45, rest42⟩
              · have hlt47 := restNil hd43
                replace h41 := (qcref1_Right_l2.eq_1 _ _ _).symm.trans h41
                refine COk.seqQ fun Q1855 qn1855 qx1855 qr1855 => ?_
                refine gor hn ?_
                refine qn1855 _ _ ?_
                refine COk.seqQ fun Q1856 qn1856 qx1856 qr1856 => ?_
                refine goc hn ?_
                refine bselF hlt47 ?_
                refine goe hn ?_
                refine qx1856 _ _ _ ?_
                refine qx1854 _ _ _ ?_
                refine qe1853 _ _ ?_
                refine qn1852 _ _ ?_
                obtain rfl := Option.some.inj h41
                refine EOk.done ?_
                exact ⟨⟨_, rfl⟩, [], trivial, ⟨⟨rfl, rfl, rfl, rfl, (by repeat (first | exact trivial | exact rfl | (refine And.intro ?_ ?_))), rfl, rfl, trivial⟩, ⟨rfl, rfl, rfl, trivial⟩, rfl, rfl⟩⟩
              · obtain ⟨hx46, hd2, hlt47⟩ := restCons hd43
                replace h41 := (qcref1_Right_l2.eq_2 _ _ _ _ _).symm.trans h41
                refine COk.seqQ fun Q1857 qn1857 qx1857 qr1857 => ?_
                refine gor hn ?_
                refine qn1857 _ _ ?_
                refine COk.seqQ fun Q1858 qn1858 qx1858 qr1858 => ?_
                refine goc hn ?_
                refine bselT hlt47 ?_
                refine gok hn ?_
                refine qn1858 _ _ ?_
                refine COk.seqQ fun Q1859 qn1859 qx1859 qr1859 => ?_
                refine COk.blkQ fun Q1860 qn1860 qe1860 qx1860 qr1860 => ?_
                refine COk.seqQ fun Q1861 qn1861 qx1861 qr1861 => ?_
                refine gor hn ?_
                refine idxK hx46 ?_
                refine qn1861 _ _ ?_
                refine COk.seqQ fun Q1862 qn1862 qx1862 qr1862 => ?_
                refine gor hn ?_
                refine qn1862 _ _ ?_
                refine goc hn ?_
                refine bselM h41 (fun hb48 h41 => ?_) (fun hb48 h41 => ?_)
                · refine COk.seqQ fun Q1863 qn1863 qx1863 qr1863 => ?_
                  refine COk.sub (ts2 := []) (os2 := []) [] ⟨trivial, trivial, rfl, rfl⟩ (by rw [hn]; rfl) ?_
                  refine gor hn ?_
                  refine qn1863 _ _ ?_
                  refine got hn ?_
                  refine qr1860 _ _ ?_
                  refine qr1859 _ _ ?_
                  refine qr1854 _ _ ?_
                  refine qr1853 _ _ ?_
                  refine qr1852 _ _ ?_
                  refine qr1836 _ _ ?_
                  refine qr1830 _ _ ?_
                  refine qr1760 _ _ ?_
                  refine qr1755 _ _ ?_
                  refine qr1754 _ _ ?_
                  refine qr1753 _ _ ?_
                  refine qr1582 _ _ ?_
                  obtain rfl := Option.some.inj h41
                  obtain rfl := Option.some.inj h20
                  obtain rfl := Option.some.inj h
                  exact ⟨[], _, rfl, (by repeat (first | exact trivial | exact rfl | (refine And.intro ?_ ?_))), trivial, rfl, rfl, rfl, rfl, rfl⟩
                · refine gok hn ?_
                  refine qn1860 _ _ ?_
                  refine qn1859 _ _ ?_
                  refine COk.sub (ts2 := [(1, .ptr 1 0), (3, .ptr 3 0), (4, .int (k18 : Int)), (5, .ptr 5 0), (49, .sl 4 (List.map eCl a0.classes)), (50, .int (a0.classes.length : Int)), (51, .int (k18 : Int)), (78, .sl 4 (List.map eCl (a0.classes.take (k18 : Int).toNat))), (79, .int ((a0.classes.take (k18 : Int).toNat).length : Int)), (80, .int (k39 : Int))]) (os2 := [(1, .box (eWd a0) 26), (3, .box (eWd r1) 26), (5, .box (eCl x24) 60)]) [] ⟨⟨rfl, rfl, rfl, rfl, (by repeat (first | exact trivial | exact rfl | (refine And.intro ?_ ?_))), rfl, rfl, (by repeat (first | exact trivial | exact rfl | (refine And.intro ?_ ?_))), rfl, rfl, trivial⟩, ⟨rfl, rfl, rfl, trivial⟩, rfl, rfl⟩ (by rw [hn]; rfl) ?_
                  refine gor hn ?_
                  refine Or.inl (And.intro (inrK hx46 hl38) ?_)
                  refine qn1854 _ _ ?_
                  refine EOk.done ?_
                  exact ⟨⟨(rest42, k39 + 1), hd2, h41⟩, [], by show rest42.length < rest42.length + 1; omega, ⟨⟨rfl, rfl, rfl, rfl, (by repeat (first | exact trivial | exact rfl | (refine And.intro ?_ ?_))), rfl, rfl, (by repeat (first | exact trivial | exact rfl | (refine And.intro ?_ ?_))), rfl, rfl, trivial⟩, ⟨rfl, rfl, rfl, trivial⟩, rfl, rfl⟩⟩
            rintro ⟨⟨⟩, rfl⟩
            refine qn1836 _ _ ?_
            refine COk.seqQ fun Q1864 qn1864 qx1864 qr1864 => ?_
            refine gor hn ?_
            refine qn1864 _ _ ?_
            refine COk.seqQ fun Q1865 qn1865 qx1865 qr1865 => ?_
            refine COk.seqQ fun Q1866 qn1866 qx1866 qr1866 => ?_
            refine gor hn ?_
            refine qn1866 _ _ ?_
            obtain ⟨o51, h50, h20⟩ := bindM h20
            refine COk.joinR (ι := { s : Int // o51 = Ctl.next s }) (fun s => [(1, .ptr 1 0), (3, .ptr 3 0), (5, .ptr 5 0), (8, .int (0 : Int)), (9, .int s.1), (49, .sl 4 (List.map eCl a0.classes)), (50, .int (a0.classes.length : Int)), (51, .int (k18 : Int))]) (fun s => [(1, .box (eWd a0) 26), (3, .box (eWd r1) 26), (5, .box (eCl x24) 60)]) (fun Q1867 qn1867 qx1867 qr1867 => ?_) (by intro s; rw [hn]; rfl) ?_
            · refine goc hn ?_
              refine bselM h50 (fun hb52 h50 => ?_) (fun hb52 h50 => ?_)
              · refine COk.seqQ fun Q1868 qn1868 qx1868 qr1868 => ?_
                refine gor hn ?_
                refine qn1868 _ _ ?_
                refine COk.seqQ fun Q1869 qn1869 qx1869 qr1869 => ?_
                refine god hn (by kernel_rfl) ?_
                obtain ⟨x53, hx54, h50⟩ := bindM h50
                refine idxM hx54 ?_
                refine qn1869 _ _ ?_
                refine goc hn ?_
                refine bselM h50 (fun hb55 h50 => ?_) (fun hb55 h50 => ?_)
                · refine COk.seqQ fun Q1870 qn1870 qx1870 qr1870 => ?_
                  refine COk.sub (ts2 := []) (os2 := []) [] ⟨trivial, trivial, rfl, rfl⟩ (by rw [hn]; rfl) ?_
                  refine gor hn ?_
                  refine qn1870 _ _ ?_
                  refine got hn ?_
                  refine qr1867 _ _ ?_
                  refine qr1865 _ _ ?_
                  refine qr1830 _ _ ?_
                  refine qr1760 _ _ ?_
                  refine qr1755 _ _ ?_
                  refine qr1754 _ _ ?_
                  refine qr1753 _ _ ?_
                  refine qr1582 _ _ ?_
                  obtain rfl := Option.some.inj h50
                  obtain rfl := Option.some.inj h20
                  obtain rfl := Option.some.inj h
                  exact ⟨[], _, rfl, (by repeat (first | exact trivial | exact rfl | (refine And.intro ?_ ?_))), trivial, rfl, rfl, rfl, rfl, rfl⟩
                · refine gok hn ?_
                  refine qn1867 _ _ ?_
                  obtain rfl := Option.some.inj h50
                  refine EOk.done ?_
                  exact ⟨⟨_, rfl⟩, [], trivial, ⟨⟨rfl, rfl, rfl, rfl, rfl, (by repeat (first | exact trivial | exact rfl | (refine And.intro ?_ ?_))), rfl, rfl, trivial⟩, ⟨rfl, rfl, rfl, trivial⟩, rfl, rfl⟩⟩
              · refine COk.seqQ fun Q1871 qn1871 qx1871 qr1871 => ?_
                obtain ⟨o58, h57, h50⟩ := bindM h50
                refine COk.joinR (ι := { s : Bool // o58 = s }) (fun s => [(1, .ptr 1 0), (3, .ptr 3 0), (5, .ptr 5 0), (8, .int (0 : Int)), (9, .int (6 : Int)), (49, .sl 4 (List.map eCl a0.classes)), (50, .int (a0.classes.length : Int)), (51, .int (k18 : Int)), (119, .bool s.1)]) (fun s => [(1, .box (eWd a0) 26), (3, .box (eWd r1) 26), (5, .box (eCl x24) 60)]) (fun Q1872 qn1872 qx1872 qr1872 => ?_) (by intro s; rw [hn]; rfl) ?_
                · refine gor hn ?_
                  refine bselM h57 (fun hb59 h57 => ?_) (fun hb59 h57 => ?_)
                  · refine bselT hb59 ?_
                    refine bselT hb59 ?_
                    refine bselT hb59 ?_
                    refine bselT hb59 ?_
                    refine qn1872 _ _ ?_
                    obtain rfl := Option.some.inj h57
                    refine EOk.done ?_
                    exact ⟨⟨_, rfl⟩, [], trivial, ⟨⟨rfl, rfl, rfl, rfl, rfl, (by repeat (first | exact trivial | exact rfl | (refine And.intro ?_ ?_))), rfl, rfl, rfl, trivial⟩, ⟨rfl, rfl, rfl, trivial⟩, rfl, rfl⟩⟩
                  · refine bselF hb59 ?_
                    refine bselF hb59 ?_
                    refine bselF hb59 ?_
                    refine bselF hb59 ?_
                    refine bselM h57 (fun hb60 h57 => ?_) (fun hb60 h57 => ?_)
                    · refine bselT hb60 ?_
                      refine bselT hb60 ?_
                      refine bselT hb60 ?_
                      refine bselT hb60 ?_
                      refine bselT hb60 ?_
                      refine qn1872 _ _ ?_
                      obtain rfl := Option.some.inj h57
                      refine EOk.done ?_
                      exact ⟨⟨_, rfl⟩, [], trivial, ⟨⟨rfl, rfl, rfl, rfl, rfl, (by repeat (first | exact trivial | exact rfl | (refine And.intro ?_ ?_))), rfl, rfl, rfl, trivial⟩, ⟨rfl, rfl, rfl, trivial⟩, rfl, rfl⟩⟩
                    · refine bselF hb60 ?_
                      refine bselF hb60 ?_
                      refine bselF hb60 ?_
                      refine bselM h57 (fun hb61 h57 => ?_) (fun hb61 h57 => ?_)
                      · refine bselT hb61 ?_
                        refine bselT hb61 ?_
                        refine bselF hb60 ?_
                        refine bselT hb61 ?_
                        refine bselF hb60 ?_
                        refine qn1872 _ _ ?_
                        obtain rfl := Option.some.inj h57
                        refine EOk.done ?_
                        exact ⟨⟨_, rfl⟩, [], trivial, ⟨⟨rfl, rfl, rfl, rfl, rfl, (by repeat (first | exact trivial | exact rfl | (refine And.intro ?_ ?_))), rfl, rfl, rfl, trivial⟩, ⟨rfl, rfl, rfl, trivial⟩, rfl, rfl⟩⟩
                      · refine bselF hb61 ?_
                        refine bselF hb61 ?_
                        refine bselF hb60 ?_
                        refine bselF hb61 ?_
                        refine bselF hb60 ?_
                        refine qn1872 _ _ ?_
                        obtain rfl := Option.some.inj h57
                        refine EOk.done ?_
                        exact ⟨⟨_, rfl⟩, [], trivial, ⟨⟨rfl, rfl, rfl, rfl, rfl, (by repeat (first | exact trivial | exact rfl | (refine And.intro ?_ ?_))), rfl, rfl, rfl, trivial⟩, ⟨rfl, rfl, rfl, trivial⟩, rfl, rfl⟩⟩
                rintro ⟨v56, hv_⟩
                replace hv_ := hv_.symm
                subst hv_
                refine qn1871 _ _ ?_
                refine goc hn ?_
                refine bselM h50 (fun hb62 h50 => ?_) (fun hb62 h50 => ?_)
                · refine COk.seqQ fun Q1873 qn1873 qx1873 qr1873 => ?_
                  refine gor hn ?_
                  refine qn1873 _ _ ?_
                  refine got hn ?_
                  refine qr1867 _ _ ?_
                  refine qr1865 _ _ ?_
                  refine qr1830 _ _ ?_
                  refine qr1760 _ _ ?_
                  refine qr1755 _ _ ?_
                  refine qr1754 _ _ ?_
                  refine qr1753 _ _ ?_
                  refine qr1582 _ _ ?_
                  obtain rfl := Option.some.inj h50
                  obtain rfl := Option.some.inj h20
                  obtain rfl := Option.some.inj h
                  exact ⟨[], _, rfl, (by repeat (first | exact trivial | exact rfl | (refine And.intro ?_ ?_))), trivial, rfl, rfl, rfl, rfl, rfl⟩
                · refine gok hn ?_
                  refine qn1867 _ _ ?_
                  obtain rfl := Option.some.inj h50
                  refine EOk.done ?_
                  exact ⟨⟨_, rfl⟩, [], trivial, ⟨⟨rfl, rfl, rfl, rfl, rfl, (by repeat (first | exact trivial | exact rfl | (refine And.intro ?_ ?_))), rfl, rfl, trivial⟩, ⟨rfl, rfl, rfl, trivial⟩, rfl, rfl⟩⟩
            rintro ⟨v49, rfl⟩
            refine qn1865 _ _ ?_
            refine COk.seqQ fun Q1874 qn1874 qx1874 qr1874 => ?_
            obtain ⟨o65, h64, h20⟩ := bindM h20
            refine COk.joinR (ι := { s : Bool // o65 = s }) (fun s => [(1, .ptr 1 0), (3, .ptr 3 0), (49, .sl 4 (List.map eCl a0.classes)), (50, .int (a0.classes.length : Int)), (51, .int (k18 : Int)), (129, .bool s.1)]) (fun s => [(1, .box (eWd a0) 26), (3, .box (eWd r1) 26)]) (fun Q1875 qn1875 qx1875 qr1875 => ?_) (by intro s; rw [hn]; rfl) ?_
            · refine gor hn ?_
              refine bselM h64 (fun hb66 h64 => ?_) (fun hb66 h64 => ?_)
              · refine bselT hb66 ?_
                refine bselT hb66 ?_
                refine bselT hb66 ?_
                refine bselT hb66 ?_
                refine qn1875 _ _ ?_
                obtain rfl := Option.some.inj h64
                refine EOk.done ?_
                exact ⟨⟨_, rfl⟩, [], trivial, ⟨⟨rfl, rfl, (by repeat (first | exact trivial | exact rfl | (refine And.intro ?_ ?_))), rfl, rfl, rfl, trivial⟩, ⟨rfl, rfl, trivial⟩, rfl, rfl⟩⟩
              · refine bselF hb66 ?_
                refine bselF hb66 ?_
                refine bselF hb66 ?_
                refine bselF hb66 ?_
                refine qn1875 _ _ ?_
                obtain rfl := Option.some.inj h64
                refine EOk.done ?_
                exact ⟨⟨_, rfl⟩, [], trivial, ⟨⟨rfl, rfl, (by repeat (first | exact trivial | exact rfl | (refine And.intro ?_ ?_))), rfl, rfl, rfl, trivial⟩, ⟨rfl, rfl, trivial⟩, rfl, rfl⟩⟩
            rintro ⟨v63, hv_⟩
            replace hv_ := hv_.symm
            subst hv_
            refine qn1874 _ _ ?_
            refine goc hn ?_
            refine bselM h20 (fun hb67 h20 => ?_) (fun hb67 h20 => ?_)
            · refine COk.seqQ fun Q1876 qn1876 qx1876 qr1876 => ?_
              refine gor hn ?_
              refine qn1876 _ _ ?_
              refine got hn ?_
              refine qr1830 _ _ ?_
              refine qr1760 _ _ ?_
              refine qr1755 _ _ ?_
              refine qr1754 _ _ ?_
              refine qr1753 _ _ ?_
              refine qr1582 _ _ ?_
              obtain rfl := Option.some.inj h20
              obtain rfl := Option.some.inj h
              exact ⟨[], _, rfl, (by repeat (first | exact trivial | exact rfl | (refine And.intro ?_ ?_))), trivial, rfl, rfl, rfl, rfl, rfl⟩
            · refine gok hn ?_
              refine qn1830 _ _ ?_
              refine qn1760 _ _ ?_
              refine gor hn ?_
              refine Or.inl (And.intro (inrK hx25 hl17) ?_)
              refine qn1755 _ _ ?_
              refine EOk.done ?_
              exact ⟨⟨(rest21, k18 + 1), hd2, h20⟩, [], by show rest21.length < rest21.length + 1; omega, ⟨⟨rfl, rfl, (by repeat (first | exact trivial | exact rfl | (refine And.intro ?_ ?_))), rfl, rfl, trivial⟩, ⟨rfl, rfl, trivial⟩, rfl, rfl⟩⟩
      rintro ⟨⟨⟩, rfl⟩
      refine qn1582 _ _ ?_
      refine COk.seqQ fun Q1877 qn1877 qx1877 qr1877 => ?_
      refine COk.seqQ fun Q1878 qn1878 qx1878 qr1878 => ?_
      refine gor hn ?_
      refine lenM (fun hl68 => ?_)
      refine qn1878 _ _ ?_
      obtain ⟨o70, h71, h⟩ := bindM h
      refine COk.joinR (ι := { s : Unit // o70 = Ctl.next s }) (fun s => [(1, .ptr 1 0)]) (fun s => [(1, .box (eWd a0) 26)]) (fun Q2446 qn2446 qx2446 qr2446 => ?_) (by intro s; rw [hn]; rfl) ?_
      · refine COk.blkQ fun Q2447 qn2447 qe2447 qx2447 qr2447 => ?_
        refine COk.loopQ (ι := { q : ((List Cl) × Nat) // q.1 = a0.classes.drop q.2 ∧ qcref1_Right_l3 N a0 r1 q.1 q.2 = some o70 }) (fun q => [(1, .ptr 1 0), (3, .ptr 3 0), (132, .sl 4 (List.map eCl a0.classes)), (133, .int (a0.classes.length : Int)), (134, .int (q.1.2 : Int))]) (fun q => [(1, .box (eWd a0) 26), (3, .box (eWd r1) 26)]) (fun q => q.1.1.length) ⟨(a0.classes, 0), rfl, h71⟩ [] ⟨⟨rfl, rfl, (by repeat (first | exact trivial | exact rfl | (refine And.intro ?_ ?_))), rfl, rfl, trivial⟩, ⟨rfl, rfl, trivial⟩, rfl, rfl⟩ (by intro q; rw [hn]; rfl) ?_
        rintro ⟨⟨rest_, k69⟩, hd73, h71⟩ Q2448 qn2448 qx2448 qr2448
        replace hd73 : rest_ = a0.classes.drop k69 := hd73
        rcases rest_ with _ | ⟨x75, rest72⟩
        · have hlt77 := restNil hd73
          replace h71 := (qcref1_Right_l3.eq_1 _ _ _ _).symm.trans h71
          refine COk.seqQ fun Q2449 qn2449 qx2449 qr2449 => ?_
          refine gor hn ?_
          refine qn2449 _ _ ?_
          refine COk.seqQ fun Q2450 qn2450 qx2450 qr2450 => ?_
          refine goc hn ?_
          refine bselF hlt77 ?_
          refine goe hn ?_
          refine qx2450 _ _ _ ?_
          refine qx2448 _ _ _ ?_
          refine qe2447 _ _ ?_
          refine qn2446 _ _ ?_
          obtain rfl := Option.some.inj h71
          refine EOk.done ?_
          exact ⟨⟨_, rfl⟩, [], trivial, ⟨⟨rfl, trivial⟩, ⟨rfl, trivial⟩, rfl, rfl⟩⟩
        · obtain ⟨hx76, hd2, hlt77⟩ := restCons hd73
          replace h71 := (qcref1_Right_l3.eq_2 _ _ _ _ _ _).symm.trans h71
          refine COk.seqQ fun Q2451 qn2451 qx2451 qr2451 => ?_
          refine gor hn ?_
          refine qn2451 _ _ ?_
          refine COk.seqQ fun Q2452 qn2452 qx2452 qr2452 => ?_
          refine goc hn ?_
          refine bselT hlt77 ?_
          refine gok hn ?_
          refine qn2452 _ _ ?_
          refine COk.seqQ fun Q2453 qn2453 qx2453 qr2453 => ?_
          refine COk.blkQ fun Q2717 qn2717 qe2717 qx2717 qr2717 => ?_
          refine COk.seqQ fun Q2718 qn2718 qx2718 qr2718 => ?_
          refine gor hn ?_
          refine idxK hx76 ?_
          refine qn2718 _ _ ?_
          refine COk.seqQ fun Q2719 qn2719 qx2719 qr2719 => ?_
          refine COk.seqQ fun Q2720 qn2720 qx2720 qr2720 => ?_
          refine gor hn ?_
          obtain ⟨r78, hr79, h71⟩ := bindM h71
          show CallOk Try.prog _ _ _ _
          refine CallOk.as (qcref1_Slots_ok N a0 (k69 : Int) r78 hr79) (by repeat (first | exact trivial | exact rfl | (refine And.intro ?_ ?_))) trivial rfl ?_
          refine qn2720 _ _ ?_
          refine goc hn ?_
          refine bselM h71 (fun hb80 h71 => ?_) (fun hb80 h71 => ?_)
          · refine COk.seqQ fun Q2721 qn2721 qx2721 qr2721 => ?_
            refine gor hn ?_
            refine qn2721 _ _ ?_
            refine got hn ?_
            refine qr2719 _ _ ?_
            refine qr2717 _ _ ?_
            refine qr2453 _ _ ?_
            refine qr2448 _ _ ?_
            refine qr2447 _ _ ?_
            refine qr2446 _ _ ?_
            refine qr1877 _ _ ?_
            obtain rfl := Option.some.inj h71
            obtain rfl := Option.some.inj h
            exact ⟨[], _, rfl, (by repeat (first | exact trivial | exact rfl | (refine And.intro ?_ ?_))), trivial, rfl, rfl, rfl, rfl, rfl⟩
          · refine gok hn ?_
            refine qn2719 _ _ ?_
            refine COk.seqQ fun Q2722 qn2722 qx2722 qr2722 => ?_
            refine COk.seqQ fun Q2723 qn2723 qx2723 qr2723 => ?_
            refine gor hn ?_
            refine lenM (fun hl81 => ?_)
            refine qn2723 _ _ ?_
            refine goc hn ?_
            refine bselM h71 (fun hb82 h71 => ?_) (fun hb82 h71 => ?_)
            · refine COk.seqQ fun Q2724 qn2724 qx2724 qr2724 => ?_
              refine COk.sub (ts2 := []) (os2 := []) [] ⟨trivial, trivial, rfl, rfl⟩ (by rw [hn]; rfl) ?_
              refine gor hn ?_
              refine qn2724 _ _ ?_
              refine got hn ?_
              refine qr2722 _ _ ?_
              refine qr2717 _ _ ?_
              refine qr2453 _ _ ?_
              refine qr2448 _ _ ?_
              refine qr2447 _ _ ?_
              refine qr2446 _ _ ?_
              refine qr1877 _ _ ?_
              obtain rfl := Option.some.inj h71
              obtain rfl := Option.some.inj h
              exact ⟨[], _, rfl, (by repeat (first | exact trivial | exact rfl | (refine And.intro ?_ ?_))), trivial, rfl, rfl, rfl, rfl, rfl⟩
            · refine gok hn ?_
              refine qn2722 _ _ ?_
              refine COk.seqQ fun Q2725 qn2725 qx2725 qr2725 => ?_
              refine COk.sub (ts2 := [(1, .ptr 1 0), (3, .ptr 3 0), (10, .int (k69 : Int)), (11, .ptr 11 0), (132, .sl 4 (List.map eCl a0.classes)), (133, .int (a0.classes.length : Int)), (134, .int (k69 : Int))]) (os2 := [(1, .box (eWd a0) 26), (3, .box (eWd r1) 26), (11, .box (eCl x75) 60)]) [] ⟨⟨rfl, rfl, rfl, rfl, (by repeat (first | exact trivial | exact rfl | (refine And.intro ?_ ?_))), rfl, rfl, trivial⟩, ⟨rfl, rfl, rfl, trivial⟩, rfl, rfl⟩ (by rw [hn]; rfl) ?_
              refine gor hn ?_
              refine lenM (fun hl83 => ?_)
              refine qn2725 _ _ ?_
              obtain ⟨o85, h86, h71⟩ := bindM h71
              refine COk.joinR (ι := { s : Unit // o85 = Ctl.next s }) (fun s => [(1, .ptr 1 0), (3, .ptr 3 0), (132, .sl 4 (List.map eCl a0.classes)), (133, .int (a0.classes.length : Int)), (134, .int (k69 : Int))]) (fun s => [(1, .box (eWd a0) 26), (3, .box (eWd r1) 26)]) (fun Q2816 qn2816 qx2816 qr2816 => ?_) (by intro s; rw [hn]; rfl) ?_
              · refine COk.blkQ fun Q2817 qn2817 qe2817 qx2817 qr2817 => ?_
                refine COk.loopQ (ι := { q : ((List Me) × Nat) // q.1 = x75.methods.drop q.2 ∧ qcref1_Right_l4 N a0 r1 k69 x75 q.1 q.2 = some o85 }) (fun q => [(1, .ptr 1 0), (3, .ptr 3 0), (10, .int (k69 : Int)), (11, .ptr 11 0), (132, .sl 4 (List.map eCl a0.classes)), (133, .int (a0.classes.length : Int)), (134, .int (k69 : Int)), (148, .sl 5 (List.map eMe x75.methods)), (149, .int (x75.methods.length : Int)), (150, .int (q.1.2 : Int))]) (fun q => [(1, .box (eWd a0) 26), (3, .box (eWd r1) 26), (11, .box (eCl x75) 60)]) (fun q => q.1.1.length) ⟨(x75.methods, 0), rfl, h86⟩ [] ⟨⟨rfl, rfl, rfl, rfl, (by repeat (first | exact trivial | exact rfl | (refine And.intro ?_ ?_))), rfl, rfl, (by repeat (first | exact trivial | exact rfl | (refine And.intro ?_ ?_))), rfl, rfl, trivial⟩, ⟨rfl, rfl, rfl, trivial⟩, rfl, rfl⟩ (by intro q; rw [hn]; rfl) ?_
                rintro ⟨⟨rest_, k84⟩, hd88, h86⟩ Q2818 qn2818 qx2818 qr2818
                replace hd88 : rest_ = x75.methods.drop k84 := hd88
                rcases rest_ with _ | ⟨x90, rest87⟩
                · have hlt92 := restNil hd88
                  replace h86 := (qcref1_Right_l4.eq_1 _ _ _ _ _ _).symm.trans h86
                  refine COk.seqQ fun Q2819 qn2819 qx2819 qr2819 => ?_
                  refine gor hn ?_
                  refine qn2819 _ _ ?_
                  refine COk.seqQ fun Q2820 qn2820 qx2820 qr2820 => ?_
                  refine goc hn ?_
                  refine bselF hlt92 ?_
                  refine goe hn ?_
                  refine qx2820 _ _ _ ?_
                  refine qx2818 _ _ _ ?_
                  refine qe2817 _ _ ?_
                  refine qn2816 _ _ ?_
                  obtain rfl := Option.some.inj h86
                  refine EOk.done ?_
                  exact ⟨⟨_, rfl⟩, [], trivial, ⟨⟨rfl, rfl, (by repeat (first | exact trivial | exact rfl | (refine And.intro ?_ ?_))), rfl, rfl, trivial⟩, ⟨rfl, rfl, trivial⟩, rfl, rfl⟩⟩
                · obtain ⟨hx91, hd2, hlt92⟩ := restCons hd88
                  replace h86 := (qcref1_Right_l4.eq_2 _ _ _ _ _ _ _ _).symm.trans h86
                  refine COk.seqQ fun Q2821 qn2821 qx2821 qr2821 => ?_
                  refine gor hn ?_
                  refine qn2821 _ _ ?_
                  refine COk.seqQ fun Q2822 qn2822 qx2822 qr2822 => ?_
                  refine goc hn ?_
                  refine bselT hlt92 ?_
                  refine gok hn ?_
                  refine qn2822 _ _ ?_
                  refine COk.seqQ fun Q2823 qn2823 qx2823 qr2823 => ?_
                  refine COk.blkQ fun Q2824 qn2824 qe2824 qx2824 qr2824 => ?_
                  refine COk.seqQ fun Q2825 qn2825 qx2825 qr2825 => ?_
                  refine gor hn ?_
                  refine idxK hx91 ?_
                  refine qn2825 _ _ ?_
                  refine COk.seqQ fun Q2826 qn2826 qx2826 qr2826 => ?_
                  refine COk.seqQ fun Q2827 qn2827 qx2827 qr2827 => ?_
                  obtain ⟨o95, h94, h86⟩ := bindM h86
                  refine COk.joinR (ι := { s : Bool // o95 = s }) (fun s => [(1, .ptr 1 0), (3, .ptr 3 0), (10, .int (k69 : Int)), (11, .ptr 11 0), (13, .ptr 13 0), (132, .sl 4 (List.map eCl a0.classes)), (133, .int (a0.classes.length : Int)), (134, .int (k69 : Int)), (148, .sl 5 (List.map eMe x75.methods)), (149, .int (x75.methods.length : Int)), (150, .int (k84 : Int)), (168, .bool s.1)]) (fun s => [(1, .box (eWd a0) 26), (3, .box (eWd r1) 26), (11, .box (eCl x75) 60), (13, .box (eMe x90) 64)]) (fun Q2828 qn2828 qx2828 qr2828 => ?_) (by intro s; rw [hn]; rfl) ?_
                  · refine god hn (by kernel_rfl) ?_
                    refine bselM h94 (fun hb96 h94 => ?_) (fun hb96 h94 => ?_)
                    · refine bselT hb96 ?_
                      refine bselT hb96 ?_
                      refine bselT hb96 ?_
                      refine Or.inr ?_
                      refine bselT hb96 ?_
                      obtain ⟨x97, hx98, h94⟩ := bindM h94
                      refine idxM hx98 ?_
                      refine bselT hb96 ?_
                      refine bselT hb96 ?_
                      refine bselT hb96 ?_
                      refine bselT hb96 ?_
                      refine bselT hb96 ?_
                      refine bselT hb96 ?_
                      refine qn2828 _ _ ?_
                      obtain rfl := Option.some.inj h94
                      refine EOk.done ?_
                      exact ⟨⟨_, rfl⟩, [], trivial, ⟨⟨rfl, rfl, rfl, rfl, rfl, (by repeat (first | exact trivial | exact rfl | (refine And.intro ?_ ?_))), rfl, rfl, (by repeat (first | exact trivial | exact rfl | (refine And.intro ?_ ?_))), rfl, rfl, rfl, trivial⟩, ⟨rfl, rfl, rfl, rfl, trivial⟩, rfl, rfl⟩⟩
                    · refine bselF hb96 ?_
                      refine bselF hb96 ?_
                      refine bselF hb96 ?_
                      refine bselF hb96 ?_
                      refine bselF hb96 ?_
                      refine bselF hb96 ?_
                      refine bselF hb96 ?_
                      refine bselF hb96 ?_
                      refine bselF hb96 ?_
                      refine bselF hb96 ?_
                      refine qn2828 _ _ ?_
                      obtain rfl := Option.some.inj h94
                      refine EOk.done ?_
                      exact ⟨⟨_, rfl⟩, [], trivial, ⟨⟨rfl, rfl, rfl, rfl, rfl, (by repeat (first | exact trivial | exact rfl | (refine And.intro ?_ ?_))), rfl, rfl, (by repeat (first | exact trivial | exact rfl | (refine And.intro ?_ ?_))), rfl, rfl, rfl, trivial⟩, ⟨rfl, rfl, rfl, rfl, trivial⟩, rfl, rfl⟩⟩
                  rintro ⟨v93, hv_⟩
                  replace hv_ := hv_.symm
                  subst hv_
                  refine qn2827 _ _ ?_
                  refine goc hn ?_
                  refine bselM h86 (fun hb99 h86 => ?_) (fun hb99 h86 => ?_)
                  · refine COk.seqQ fun Q2829 qn2829 qx2829 qr2829 => ?_
                    refine gor hn ?_
                    refine qn2829 _ _ ?_
                    refine got hn ?_
                    refine qr2826 _ _ ?_
                    refine qr2824 _ _ ?_
                    refine qr2823 _ _ ?_
                    refine qr2818 _ _ ?_
                    refine qr2817 _ _ ?_
                    refine qr2816 _ _ ?_
                    refine qr2717 _ _ ?_
                    refine qr2453 _ _ ?_
                    refine qr2448 _ _ ?_
                    refine qr2447 _ _ ?_
                    refine qr2446 _ _ ?_
                    refine qr1877 _ _ ?_
                    obtain rfl := Option.some.inj h86
                    obtain rfl := Option.some.inj h71
                    obtain rfl := Option.some.inj h
                    exact ⟨[], _, rfl, (by repeat (first | exact trivial | exact rfl | (refine And.intro ?_ ?_))), trivial, rfl, rfl, rfl, rfl, rfl⟩
                  · refine gok hn ?_
                    refine qn2826 _ _ ?_
                    refine COk.seqQ fun Q2830 qn2830 qx2830 qr2830 => ?_
                    refine gor hn ?_
                    refine qn2830 _ _ ?_
                    refine COk.seqQ fun Q2831 qn2831 qx2831 qr2831 => ?_
                    refine COk.seqQ fun Q2832 qn2832 qx2832 qr2832 => ?_
                    refine gor hn ?_
                    obtain ⟨x100, hx101, h86⟩ := bindM h86
                    refine idxM hx101 ?_
                    refine lenM (fun hl102 => ?_)
                    refine qn2832 _ _ ?_
                    obtain ⟨o107, h108, h86⟩ := bindM h86
                    refine COk.joinR (ι := { s : Bool // o107 = s }) (fun s => [(1, .ptr 1 0), (3, .ptr 3 0), (10, .int (k69 : Int)), (11, .ptr 11 0), (13, .ptr 13 0), (14, .bool s.1), (132, .sl 4 (List.map eCl a0.classes)), (133, .int (a0.classes.length : Int)), (134, .int (k69 : Int)), (148, .sl 5 (List.map eMe x75.methods)), (149, .int (x75.methods.length : Int)), (150, .int (k84 : Int))]) (fun s => [(1, .box (eWd a0) 26), (3, .box (eWd r1) 26), (11, .box (eCl x75) 60), (13, .box (eMe x90) 64)]) (fun Q2851 qn2851 qx2851 qr2851 => ?_) (by intro s; rw [hn]; rfl) ?_
                    · refine COk.blkQ fun Q2852 qn2852 qe2852 qx2852 qr2852 => ?_
                      refine COk.loopQ (ι := { q : ((List Me) × Nat × Bool) // q.1 = x100.methods.drop q.2.1 ∧ qcref1_Right_l5 N k69 x90 q.1 q.2.1 q.2.2 = some o107 }) (fun q => [(1, .ptr 1 0), (3, .ptr 3 0), (10, .int (k69 : Int)), (11, .ptr 11 0), (13, .ptr 13 0), (14, .bool q.1.2.2), (132, .sl 4 (List.map eCl a0.classes)), (133, .int (a0.classes.length : Int)), (134, .int (k69 : Int)), (148, .sl 5 (List.map eMe x75.methods)), (149, .int (x75.methods.length : Int)), (150, .int (k84 : Int)), (173, .sl 5 (List.map eMe x100.methods)), (174, .int (x100.methods.length : Int)), (175, .int (q.1.2.1 : Int))]) (fun q => [(1, .box (eWd a0) 26), (3, .box (eWd r1) 26), (11, .box (eCl x75) 60), (13, .box (eMe x90) 64)]) (fun q => q.1.1.length) ⟨(x100.methods, 0, false), rfl, h108⟩ [] ⟨⟨rfl, rfl, rfl, rfl, rfl, rfl, (by repeat (first | exact trivial | exact rfl | (refine And.intro ?_ ?_))), rfl, rfl, (by repeat (first | exact trivial | exact rfl | (refine And.intro ?_ ?_))), rfl, rfl, (by repeat (first | exact trivial | exact rfl | (refine And.intro ?_ ?_))), rfl, rfl, trivial⟩, ⟨rfl, rfl, rfl, rfl, trivial⟩, rfl, rfl⟩ (by intro q; rw [hn]; rfl) ?_
                      rintro ⟨⟨rest_, k103, v104⟩, hd110, h108⟩ Q2853 qn2853 qx2853 qr2853
                      replace hd110 : rest_ = x100.methods.drop k103 := hd110
                      rcases rest_ with _ | ⟨x112, rest109⟩
                      · have hlt114 := restNil hd110
                        replace h108 := (qcref1_Right_l5.eq_1 _ _ _ _ _).symm.trans h108
                        refine COk.seqQ fun Q2854 qn2854 qx2854 qr2854 => ?_
                        refine gor hn ?_
                        refine qn2854 _ _ ?_
                        refine COk.seqQ fun Q2855 qn2855 qx2855 qr2855 => ?_
                        refine goc hn ?_
                        refine bselF hlt114 ?_
                        refine goe hn ?_
                        refine qx2855 _ _ _ ?_
                        refine qx2853 _ _ _ ?_
                        refine qe2852 _ _ ?_
                        refine qn2851 _ _ ?_
                        obtain rfl := Option.some.inj h108
                        refine EOk.done ?_
                        exact ⟨⟨_, rfl⟩, [], trivial, ⟨⟨rfl, rfl, rfl, rfl, rfl, rfl, (by repeat (first | exact trivial | exact rfl | (refine And.intro ?_ ?_))), rfl, rfl, (by repeat (first | exact trivial | exact rfl | (refine And.intro ?_ ?_))), rfl, rfl, trivial⟩, ⟨rfl, rfl, rfl, rfl, trivial⟩, rfl, rfl⟩⟩
                      · obtain ⟨hx113, hd2, hlt114⟩ := restCons hd110
                        replace h108 := (qcref1_Right_l5.eq_2 _ _ _ _ _ _ _).symm.trans h108
                        refine COk.seqQ fun Q2856 qn2856 qx2856 qr2856 => ?_
                        refine gor hn ?_
                        refine qn2856 _ _ ?_
                        refine COk.seqQ fun Q2857 qn2857 qx2857 qr2857 => ?_
                        refine goc hn ?_
                        refine bselT hlt114 ?_
                        refine gok hn ?_
                        refine qn2857 _ _ ?_
                        refine COk.seqQ fun Q2858 qn2858 qx2858 qr2858 => ?_
                        refine COk.blkQ fun Q2859 qn2859 qe2859 qx2859 qr2859 => ?_
                        refine COk.seqQ fun Q2860 qn2860 qx2860 qr2860 => ?_
                        refine gor hn ?_
                        refine idxK hx113 ?_
                        refine qn2860 _ _ ?_
                        obtain ⟨o117, h116, h108⟩ := bindM h108
                        refine COk.joinR (ι := { s : Bool // o117 = s }) (fun s => [(1, .ptr 1 0), (3, .ptr 3 0), (10, .int (k69 : Int)), (11, .ptr 11 0), (13, .ptr 13 0), (14, .bool s.1), (132, .sl 4 (List.map eCl a0.classes)), (133, .int (a0.classes.length : Int)), (134, .int (k69 : Int)), (148, .sl 5 (List.map eMe x75.methods)), (149, .int (x75.methods.length : Int)), (150, .int (k84 : Int)), (173, .sl 5 (List.map eMe x100.methods)), (174, .int (x100.methods.length : Int)), (175, .int (k103 : Int))]) (fun s => [(1, .box (eWd a0) 26), (3, .box (eWd r1) 26), (11, .box (eCl x75) 60), (13, .box (eMe x90) 64)]) (fun Q2861 qn2861 qx2861 qr2861 => ?_) (by intro s; rw [hn]; rfl) ?_
                        · refine COk.sub (ts2 := [(1, .ptr 1 0), (3, .ptr 3 0), (10, .int (k69 : Int)), (11, .ptr 11 0), (13, .ptr 13 0), (14, .bool v104), (16, .ptr 16 0), (132, .sl 4 (List.map eCl a0.classes)), (133, .int (a0.classes.length : Int)), (134, .int (k69 : Int)), (148, .sl 5 (List.map eMe x75.methods)), (149, .int (x75.methods.length : Int)), (150, .int (k84 : Int)), (173, .sl 5 (List.map eMe x100.methods)), (174, .int (x100.methods.length : Int)), (175, .int (k103 : Int))]) (os2 := [(1, .box (eWd a0) 26), (3, .box (eWd r1) 26), (11, .box (eCl x75) 60), (13, .box (eMe x90) 64), (16, .box (eMe x112) 64)]) [] ⟨⟨rfl, rfl, rfl, rfl, rfl, rfl, rfl, (by repeat (first | exact trivial | exact rfl | (refine And.intro ?_ ?_))), rfl, rfl, (by repeat (first | exact trivial | exact rfl | (refine And.intro ?_ ?_))), rfl, rfl, (by repeat (first | exact trivial | exact rfl | (refine And.intro ?_ ?_))), rfl, rfl, trivial⟩, ⟨rfl, rfl, rfl, rfl, rfl, trivial⟩, rfl, rfl⟩ (by rw [hn]; rfl) ?_
                          refine gor hn ?_
                          refine bselM h116 (fun hb118 h116 => ?_) (fun hb118 h116 => ?_)
                          · refine bselT hb118 ?_
                            refine bselT hb118 ?_
                            refine bselT hb118 ?_
                            refine bselT hb118 ?_
                            refine bselT hb118 ?_
                            refine bselT hb118 ?_
                            refine bselT hb118 ?_
                            refine bselT hb118 ?_
                            refine bselT hb118 ?_
                            refine bselT hb118 ?_
                            refine bselT hb118 ?_
                            refine bselT hb118 ?_
                            refine qn2861 _ _ ?_
                            obtain rfl := Option.some.inj h116
                            refine EOk.done ?_
                            exact ⟨⟨_, rfl⟩, [], trivial, ⟨⟨rfl, rfl, rfl, rfl, rfl, rfl, (by repeat (first | exact trivial | exact rfl | (refine And.intro ?_ ?_))), rfl, rfl, (by repeat (first | exact trivial | exact rfl | (refine And.intro ?_ ?_))), rfl, rfl, (by repeat (first | exact trivial | exact rfl | (refine And.intro ?_ ?_))), rfl, rfl, trivial⟩, ⟨rfl, rfl, rfl, rfl, trivial⟩, rfl, rfl⟩⟩
                          · refine bselF hb118 ?_
                            refine bselF hb118 ?_
                            refine bselM h116 (fun hb119 h116 => ?_) (fun hb119 h116 => ?_)
                            · refine bselT hb119 ?_
                              refine bselT hb119 ?_
                              refine bselT hb119 ?_
                              refine bselT hb119 ?_
                              refine bselF hb118 ?_
                              refine bselT hb119 ?_
                              refine bselF hb118 ?_
                              refine bselM h116 (fun hb120 h116 => ?_) (fun hb120 h116 => ?_)
                              · refine bselT hb120 ?_
                                refine bselT hb120 ?_
                                refine bselT hb120 ?_
                                refine bselT hb120 ?_
                                refine bselF hb118 ?_
                                refine bselT hb120 ?_
                                refine bselF hb118 ?_
                                refine bselM h116 (fun hb121 h116 => ?_) (fun hb121 h116 => ?_)
                                · refine bselT hb121 ?_
                                  refine bselT hb121 ?_
                                  refine bselF hb118 ?_
                                  refine bselT hb121 ?_
                                  refine bselF hb118 ?_
                                  refine bselM h116 (fun hb122 h116 => ?_) (fun hb122 h116 => ?_)
                                  · refine bselT hb122 ?_
                                    refine bselT hb122 ?_
                                    refine bselF hb118 ?_
                                    refine bselT hb122 ?_
                                    refine bselF hb118 ?_
                                    refine bselM h116 (fun hb123 h116 => ?_) (fun hb123 h116 => ?_)
                                    · refine bselT hb123 ?_
                                      refine bselT hb123 ?_
                                      refine lenM (fun hl124 => ?_)
                                      refine bselT hb123 ?_
                                      refine bselF hb118 ?_
                                      refine bselT hb123 ?_
                                      refine bselF hb118 ?_
                                      refine qn2861 _ _ ?_
                                      obtain rfl := Option.some.inj h116
                                      refine EOk.done ?_
                                      exact ⟨⟨_, rfl⟩, [], trivial, ⟨⟨rfl, rfl, rfl, rfl, rfl, rfl, (by repeat (first | exact trivial | exact rfl | (refine And.intro ?_ ?_))), rfl, rfl, (by repeat (first | exact trivial | exact rfl | (refine And.intro ?_ ?_))), rfl, rfl, (by repeat (first | exact trivial | exact rfl | (refine And.intro ?_ ?_))), rfl, rfl, trivial⟩, ⟨rfl, rfl, rfl, rfl, trivial⟩, rfl, rfl⟩⟩
                                    · refine bselF hb123 ?_
                                      refine bselF hb123 ?_
                                      refine bselF hb123 ?_
                                      refine bselF hb118 ?_
                                      refine bselF hb123 ?_
                                      refine bselF hb118 ?_
                                      refine qn2861 _ _ ?_
                                      obtain rfl := Option.some.inj h116
                                      refine EOk.done ?_
                                      exact ⟨⟨_, rfl⟩, [], trivial, ⟨⟨rfl, rfl, rfl, rfl, rfl, rfl, (by repeat (first | exact trivial | exact rfl | (refine And.intro ?_ ?_))), rfl, rfl, (by repeat (first | exact trivial | exact rfl | (refine And.intro ?_ ?_))), rfl, rfl, (by repeat (first | exact trivial | exact rfl | (refine And.intro ?_ ?_))), rfl, rfl, trivial⟩, ⟨rfl, rfl, rfl, rfl, trivial⟩, rfl, rfl⟩⟩
                                  · refine bselF hb122 ?_
                                    refine bselF hb122 ?_
                                    refine bselF hb118 ?_
                                    refine bselF hb122 ?_
                                    refine bselF hb118 ?_
                                    refine bselF hb118 ?_
                                    refine bselF hb118 ?_
                                    refine qn2861 _ _ ?_
                                    obtain rfl := Option.some.inj h116
                                    refine EOk.done ?_
                                    exact ⟨⟨_, rfl⟩, [], trivial, ⟨⟨rfl, rfl, rfl, rfl, rfl, rfl, (by repeat (first | exact trivial | exact rfl | (refine And.intro ?_ ?_))), rfl, rfl, (by repeat (first | exact trivial | exact rfl | (refine And.intro ?_ ?_))), rfl, rfl, (by repeat (first | exact trivial | exact rfl | (refine And.intro ?_ ?_))), rfl, rfl, trivial⟩, ⟨rfl, rfl, rfl, rfl, trivial⟩, rfl, rfl⟩⟩
                                · refine bselF hb121 ?_
                                  refine bselF hb121 ?_
                                  refine bselF hb118 ?_
                                  refine bselF hb121 ?_
                                  refine bselF hb118 ?_
                                  refine bselF hb118 ?_
                                  refine bselF hb118 ?_
                                  refine bselF hb118 ?_
                                  refine bselF hb118 ?_
                                  refine qn2861 _ _ ?_
                                  obtain rfl := Option.some.inj h116
                                  refine EOk.done ?_
                                  exact ⟨⟨_, rfl⟩, [], trivial, ⟨⟨rfl, rfl, rfl, rfl, rfl, rfl, (by repeat (first | exact trivial | exact rfl | (refine And.intro ?_ ?_))), rfl, rfl, (by repeat (first | exact trivial | exact rfl | (refine And.intro ?_ ?_))), rfl, rfl, (by repeat (first | exact trivial | exact rfl | (refine And.intro ?_ ?_))), rfl, rfl, trivial⟩, ⟨rfl, rfl, rfl, rfl, trivial⟩, rfl, rfl⟩⟩
                              · refine bselF hb120 ?_
                                refine bselF hb120 ?_
                                refine bselF hb120 ?_
                                refine bselF hb120 ?_
                                refine bselF hb118 ?_
                                refine bselF hb120 ?_
                                refine bselF hb118 ?_
                                refine bselF hb118 ?_
                                refine bselF hb118 ?_
                                refine bselF hb118 ?_
                                refine bselF hb118 ?_
                                refine bselF hb118 ?_
                                refine bselF hb118 ?_
                                refine qn2861 _ _ ?_
                                obtain rfl := Option.some.inj h116
                                refine EOk.done ?_
                                exact ⟨⟨_, rfl⟩, [], trivial, ⟨⟨rfl, rfl, rfl, rfl, rfl, rfl, (by repeat (first | exact trivial | exact rfl | (refine And.intro ?_ ?_))), rfl, rfl, (by repeat (first | exact trivial | exact rfl | (refine And.intro ?_ ?_))), rfl, rfl, (by repeat (first | exact trivial | exact rfl | (refine And.intro ?_ ?_))), rfl, rfl, trivial⟩, ⟨rfl, rfl, rfl, rfl, trivial⟩, rfl, rfl⟩⟩
                            · refine bselF hb119 ?_
                              refine bselF hb119 ?_
                              refine bselF hb119 ?_
                              refine bselF hb119 ?_
                              refine bselF hb118 ?_
                              refine bselF hb119 ?_
                              refine bselF hb118 ?_
                              refine bselF hb118 ?_
                              refine bselF hb118 ?_
                              refine bselF hb118 ?_
                              refine bselF hb118 ?_
                              refine bselF hb118 ?_
                              refine bselF hb118 ?_
                              refine bselF hb118 ?_
                              refine bselF hb118 ?_
                              refine qn2861 _ _ ?_
                              obtain rfl := Option.some.inj h116
                              refine EOk.done ?_
                              exact ⟨⟨_, rfl⟩, [], trivial, ⟨⟨rfl, rfl, rfl, rfl, rfl, rfl, (by repeat (first | exact trivial | exact rfl | (refine And.intro ?_ ?_))), rfl, rfl, (by repeat (first | exact trivial | exact rfl | (refine And.intro ?_ ?_))), rfl, rfl, (by repeat (first | exact trivial | exact rfl | (refine And.intro ?_ ?_))), rfl, rfl, trivial⟩, ⟨rfl, rfl, rfl, rfl, trivial⟩, rfl, rfl⟩⟩
                        rintro ⟨v115, hv_⟩
                        replace hv_ := hv_.symm
                        subst hv_
                        refine qn2859 _ _ ?_
                        refine qn2858 _ _ ?_
                        refine gor hn ?_
                        refine Or.inl (And.intro (inrK hx113 hl102) ?_)
                        refine qn2853 _ _ ?_
                        refine EOk.done ?_
                        exact ⟨⟨(rest109, k103 + 1, v115), hd2, h108⟩, [], by show rest109.length < rest109.length + 1; omega, ⟨⟨rfl, rfl, rfl, rfl, rfl, rfl, (by repeat (first | exact trivial | exact rfl | (refine And.intro ?_ ?_))), rfl, rfl, (by repeat (first | exact trivial | exact rfl | (refine And.intro ?_ ?_))), rfl, rfl, (by repeat (first | exact trivial | exact rfl | (refine And.intro ?_ ?_))), rfl, rfl, trivial⟩, ⟨rfl, rfl, rfl, rfl, trivial⟩, rfl, rfl⟩⟩
                    rintro ⟨v106, hv_⟩
                    replace hv_ := hv_.symm
                    subst hv_
                    refine qn2831 _ _ ?_
                    refine COk.seqQ fun Q2862 qn2862 qx2862 qr2862 => ?_
                    refine gor hn ?_
                    obtain ⟨r125, hr126, h86⟩ := bindM h86
                    show CallOk Try.prog _ _ _ _
                    refine CallOk.as (qcref1_Check_ok N a0 (k69 : Int) x90 r125 hr126) (by repeat (first | exact trivial | exact rfl | (refine And.intro ?_ ?_))) trivial rfl ?_
                    refine qn2862 _ _ ?_
                    refine COk.seqQ fun Q2863 qn2863 qx2863 qr2863 => ?_
                    obtain ⟨o129, h128, h86⟩ := bindM h86
                    refine COk.joinR (ι := { s : Bool // o129 = s }) (fun s => [(1, .ptr 1 0), (3, .ptr 3 0), (10, .int (k69 : Int)), (11, .ptr 11 0), (17, .ptr 17 0), (132, .sl 4 (List.map eCl a0.classes)), (133, .int (a0.classes.length : Int)), (134, .int (k69 : Int)), (148, .sl 5 (List.map eMe x75.methods)), (149, .int (x75.methods.length : Int)), (150, .int (k84 : Int)), (225, .bool s.1)]) (fun s => [(1, .box (eWd a0) 26), (3, .box (eWd r1) 26), (11, .box (eCl x75) 60), (17, .box (eTFault r125) 95)]) (fun Q2864 qn2864 qx2864 qr2864 => ?_) (by intro s; rw [hn]; rfl) ?_
                    · refine COk.sub (ts2 := [(1, .ptr 1 0), (3, .ptr 3 0), (10, .int (k69 : Int)), (11, .ptr 11 0), (14, .bool v106), (17, .ptr 17 0), (132, .sl 4 (List.map eCl a0.classes)), (133, .int (a0.classes.length : Int)), (134, .int (k69 : Int)), (148, .sl 5 (List.map eMe x75.methods)), (149, .int (x75.methods.length : Int)), (150, .int (k84 : Int))]) (os2 := [(1, .box (eWd a0) 26), (3, .box (eWd r1) 26), (11, .box (eCl x75) 60), (17, .box (eTFault r125) 95)]) [] ⟨⟨rfl, rfl, rfl, rfl, rfl, rfl, (by repeat (first | exact trivial | exact rfl | (refine And.intro ?_ ?_))), rfl, rfl, (by repeat (first | exact trivial | exact rfl | (refine And.intro ?_ ?_))), rfl, rfl, trivial⟩, ⟨rfl, rfl, rfl, rfl, trivial⟩, rfl, rfl⟩ (by rw [hn]; rfl) ?_
                      refine gor hn ?_
                      refine bselM h128 (fun hb130 h128 => ?_) (fun hb130 h128 => ?_)
                      · refine bselT hb130 ?_
                        refine bselT hb130 ?_
                        refine bselT hb130 ?_
                        refine qn2864 _ _ ?_
                        obtain rfl := Option.some.inj h128
                        refine EOk.done ?_
                        exact ⟨⟨_, rfl⟩, [], trivial, ⟨⟨rfl, rfl, rfl, rfl, rfl, (by repeat (first | exact trivial | exact rfl | (refine And.intro ?_ ?_))), rfl, rfl, (by repeat (first | exact trivial | exact rfl | (refine And.intro ?_ ?_))), rfl, rfl, rfl, trivial⟩, ⟨rfl, rfl, rfl, rfl, trivial⟩, rfl, rfl⟩⟩
                      · refine bselF hb130 ?_
                        refine bselF hb130 ?_
                        refine bselF hb130 ?_
                        refine qn2864 _ _ ?_
                        obtain rfl := Option.some.inj h128
                        refine EOk.done ?_
                        exact ⟨⟨_, rfl⟩, [], trivial, ⟨⟨rfl, rfl, rfl, rfl, rfl, (by repeat (first | exact trivial | exact rfl | (refine And.intro ?_ ?_))), rfl, rfl, (by repeat (first | exact trivial | exact rfl | (refine And.intro ?_ ?_))), rfl, rfl, rfl, trivial⟩, ⟨rfl, rfl, rfl, rfl, trivial⟩, rfl, rfl⟩⟩
                    rintro ⟨v127, hv_⟩
                    replace hv_ := hv_.symm
                    subst hv_
                    refine qn2863 _ _ ?_
                    refine goc hn ?_
                    refine bselM h86 (fun hb131 h86 => ?_) (fun hb131 h86 => ?_)
                    · refine COk.seqQ fun Q2865 qn2865 qx2865 qr2865 => ?_
                      refine gor hn ?_
                      refine qn2865 _ _ ?_
                      refine got hn ?_
                      refine qr2824 _ _ ?_
                      refine qr2823 _ _ ?_
                      refine qr2818 _ _ ?_
                      refine qr2817 _ _ ?_
                      refine qr2816 _ _ ?_
                      refine qr2717 _ _ ?_
                      refine qr2453 _ _ ?_
                      refine qr2448 _ _ ?_
                      refine qr2447 _ _ ?_
                      refine qr2446 _ _ ?_
                      refine qr1877 _ _ ?_
                      obtain rfl := Option.some.inj h86
                      obtain rfl := Option.some.inj h71
                      obtain rfl := Option.some.inj h
                      exact ⟨[], _, rfl, (by repeat (first | exact trivial | exact rfl | (refine And.intro ?_ ?_))), trivial, rfl, rfl, rfl, rfl, rfl⟩
                    · refine gok hn ?_
                      refine qn2824 _ _ ?_
                      refine qn2823 _ _ ?_
                      refine gor hn ?_
                      refine Or.inl (And.intro (inrK hx91 hl83) ?_)
                      refine qn2818 _ _ ?_
                      refine EOk.done ?_
                      exact ⟨⟨(rest87, k84 + 1), hd2, h86⟩, [], by show rest87.length < rest87.length + 1; omega, ⟨⟨rfl, rfl, rfl, rfl, (by repeat (first | exact trivial | exact rfl | (refine And.intro ?_ ?_))), rfl, rfl, (by repeat (first | exact trivial | exact rfl | (refine And.intro ?_ ?_))), rfl, rfl, trivial⟩, ⟨rfl, rfl, rfl, trivial⟩, rfl, rfl⟩⟩
              rintro ⟨⟨⟩, rfl⟩
              refine qn2717 _ _ ?_
              refine qn2453 _ _ ?_
              refine gor hn ?_
              refine Or.inl (And.intro (inrK hx76 hl68) ?_)
              refine qn2448 _ _ ?_
              refine EOk.done ?_
              exact ⟨⟨(rest72, k69 + 1), hd2, h71⟩, [], by show rest72.length < rest72.length + 1; omega, ⟨⟨rfl, rfl, (by repeat (first | exact trivial | exact rfl | (refine And.intro ?_ ?_))), rfl, rfl, trivial⟩, ⟨rfl, rfl, trivial⟩, rfl, rfl⟩⟩
      rintro ⟨⟨⟩, rfl⟩
      refine qn1877 _ _ ?_
      refine COk.seqQ fun Q2866 qn2866 qx2866 qr2866 => ?_
      refine COk.seqQ fun Q2867 qn2867 qx2867 qr2867 => ?_
      refine gor hn ?_
      refine lenM (fun hl132 => ?_)
      refine qn2867 _ _ ?_
      obtain ⟨o134, h135, h⟩ := bindM h
      refine COk.joinR (ι := { s : Unit // o134 = Ctl.next s }) (fun s => []) (fun s => []) (fun Q3024 qn3024 qx3024 qr3024 => ?_) (by intro s; rw [hn]; rfl) ?_
      · refine COk.blkQ fun Q3025 qn3025 qe3025 qx3025 qr3025 => ?_
        refine COk.loopQ (ι := { q : ((List Ob) × Nat) // q.1 = a0.heap.drop q.2 ∧ qcref1_Right_l6 N a0 q.1 q.2 = some o134 }) (fun q => [(1, .ptr 1 0), (231, .sl 2 (List.map eOb a0.heap)), (232, .int (a0.heap.length : Int)), (233, .int (q.1.2 : Int))]) (fun q => [(1, .box (eWd a0) 26)]) (fun q => q.1.1.length) ⟨(a0.heap, 0), rfl, h135⟩ [] ⟨⟨rfl, (by repeat (first | exact trivial | exact rfl | (refine And.intro ?_ ?_))), rfl, rfl, trivial⟩, ⟨rfl, trivial⟩, rfl, rfl⟩ (by intro q; rw [hn]; rfl) ?_
        rintro ⟨⟨rest_, k133⟩, hd137, h135⟩ Q3026 qn3026 qx3026 qr3026
        replace hd137 : rest_ = a0.heap.drop k133 := hd137
        rcases rest_ with _ | ⟨x139, rest136⟩
        · have hlt141 := restNil hd137
          replace h135 := (qcref1_Right_l6.eq_1 _ _ _).symm.trans h135
          refine COk.seqQ fun Q3027 qn3027 qx3027 qr3027 => ?_
          refine gor hn ?_
          refine qn3027 _ _ ?_
          refine COk.seqQ fun Q3028 qn3028 qx3028 qr3028 => ?_
          refine goc hn ?_
          refine bselF hlt141 ?_
          refine goe hn ?_
          refine qx3028 _ _ _ ?_
          refine qx3026 _ _ _ ?_
          refine qe3025 _ _ ?_
          refine qn3024 _ _ ?_
          obtain rfl := Option.some.inj h135
          refine EOk.done ?_
          exact ⟨⟨_, rfl⟩, [], trivial, ⟨trivial, trivial, rfl, rfl⟩⟩
        · obtain ⟨hx140, hd2, hlt141⟩ := restCons hd137
          replace h135 := (qcref1_Right_l6.eq_2 _ _ _ _ _).symm.trans h135
          refine COk.seqQ fun Q3029 qn3029 qx3029 qr3029 => ?_
          refine gor hn ?_
          refine qn3029 _ _ ?_
          refine COk.seqQ fun Q3030 qn3030 qx3030 qr3030 => ?_
          refine goc hn ?_
          refine bselT hlt141 ?_
          refine gok hn ?_
          refine qn3030 _ _ ?_
          refine COk.seqQ fun Q3031 qn3031 qx3031 qr3031 => ?_
          refine COk.blkQ fun Q3094 qn3094 qe3094 qx3094 qr3094 => ?_
          refine COk.seqQ fun Q3095 qn3095 qx3095 qr3095 => ?_
          refine gor hn ?_
          refine idxK hx140 ?_
          refine qn3095 _ _ ?_
          refine COk.seqQ fun Q3096 qn3096 qx3096 qr3096 => ?_
          refine COk.seqQ fun Q3097 qn3097 qx3097 qr3097 => ?_
          obtain ⟨o144, h143, h135⟩ := bindM h135
          refine COk.joinR (ι := { s : Bool // o144 = s }) (fun s => [(1, .ptr 1 0), (19, .ptr 19 0), (231, .sl 2 (List.map eOb a0.heap)), (232, .int (a0.heap.length : Int)), (233, .int (k133 : Int)), (267, .bool s.1)]) (fun s => [(1, .box (eWd a0) 26), (19, .box (eOb x139) 99)]) (fun Q3098 qn3098 qx3098 qr3098 => ?_) (by intro s; rw [hn]; rfl) ?_
          · refine COk.sub (ts2 := [(1, .ptr 1 0), (19, .ptr 19 0), (231, .sl 2 (List.map eOb a0.heap)), (232, .int (a0.heap.length : Int)), (233, .int (k133 : Int))]) (os2 := [(1, .box (eWd a0) 26), (19, .box (eOb x139) 99)]) [] ⟨⟨rfl, rfl, (by repeat (first | exact trivial | exact rfl | (refine And.intro ?_ ?_))), rfl, rfl, trivial⟩, ⟨rfl, rfl, trivial⟩, rfl, rfl⟩ (by rw [hn]; rfl) ?_
            refine god hn (by kernel_rfl) ?_
            refine bselM h143 (fun hb145 h143 => ?_) (fun hb145 h143 => ?_)
            · refine bselT hb145 ?_
              refine bselT hb145 ?_
              refine bselT hb145 ?_
              refine bselT hb145 ?_
              refine bselT hb145 ?_
              refine qn3098 _ _ ?_
              obtain rfl := Option.some.inj h143
              refine EOk.done ?_
              exact ⟨⟨_, rfl⟩, [], trivial, ⟨⟨rfl, rfl, (by repeat (first | exact trivial | exact rfl | (refine And.intro ?_ ?_))), rfl, rfl, rfl, trivial⟩, ⟨rfl, rfl, trivial⟩, rfl, rfl⟩⟩
            · refine bselF hb145 ?_
              refine bselF hb145 ?_
              refine bselF hb145 ?_
              refine bselM h143 (fun hb146 h143 => ?_) (fun hb146 h143 => ?_)
              · refine bselT hb146 ?_
                refine bselT hb146 ?_
                refine bselF hb145 ?_
                refine bselT hb146 ?_
                refine bselF hb145 ?_
                refine bselM h143 (fun hb147 h143 => ?_) (fun hb147 h143 => ?_)
                · refine bselT hb147 ?_
                  refine bselT hb147 ?_
                  refine bselT hb147 ?_
                  refine bselT hb147 ?_
                  refine bselT hb147 ?_
                  refine bselT hb147 ?_
                  refine qn3098 _ _ ?_
                  obtain rfl := Option.some.inj h143
                  refine EOk.done ?_
                  exact ⟨⟨_, rfl⟩, [], trivial, ⟨⟨rfl, rfl, (by repeat (first | exact trivial | exact rfl | (refine And.intro ?_ ?_))), rfl, rfl, rfl, trivial⟩, ⟨rfl, rfl, trivial⟩, rfl, rfl⟩⟩
                · refine bselF hb147 ?_
                  refine bselF hb147 ?_
                  refine bselF hb147 ?_
                  refine bselF hb147 ?_
                  refine lenM (fun hl148 => ?_)
                  refine bselF hb147 ?_
                  refine bselF hb147 ?_
                  refine bselM h143 (fun hb149 h143 => ?_) (fun hb149 h143 => ?_)
                  · refine bselT hb149 ?_
                    refine bselT hb149 ?_
                    refine bselT hb149 ?_
                    refine bselT hb149 ?_
                    refine bselT hb149 ?_
                    refine bselT hb149 ?_
                    refine bselT hb149 ?_
                    refine bselT hb149 ?_
                    refine qn3098 _ _ ?_
                    obtain rfl := Option.some.inj h143
                    refine EOk.done ?_
                    exact ⟨⟨_, rfl⟩, [], trivial, ⟨⟨rfl, rfl, (by repeat (first | exact trivial | exact rfl | (refine And.intro ?_ ?_))), rfl, rfl, rfl, trivial⟩, ⟨rfl, rfl, trivial⟩, rfl, rfl⟩⟩
                  · refine bselF hb149 ?_
                    refine bselF hb149 ?_
                    refine lenM (fun hl150 => ?_)
                    refine bselF hb149 ?_
                    refine bselF hb149 ?_
                    refine bselF hb149 ?_
                    refine bselF hb149 ?_
                    obtain ⟨r151, hr152, h143⟩ := bindM h143
                    show CallOk Try.prog _ _ _ _
                    refine CallOk.as (qcref1_Slots_ok N a0 x139.cls r151 hr152) (by repeat (first | exact trivial | exact rfl | (refine And.intro ?_ ?_))) trivial rfl ?_
                    refine bselF hb149 ?_
                    refine bselF hb149 ?_
                    refine qn3098 _ _ ?_
                    obtain rfl := Option.some.inj h143
                    refine EOk.done ?_
                    exact ⟨⟨_, rfl⟩, [], trivial, ⟨⟨rfl, rfl, (by repeat (first | exact trivial | exact rfl | (refine And.intro ?_ ?_))), rfl, rfl, rfl, trivial⟩, ⟨rfl, rfl, trivial⟩, rfl, rfl⟩⟩
              · refine bselF hb146 ?_
                refine bselF hb146 ?_
                refine bselF hb145 ?_
                refine bselF hb146 ?_
                refine bselF hb145 ?_
                refine lenM (fun hl153 => ?_)
                refine bselM h143 (fun hb154 h143 => ?_) (fun hb154 h143 => ?_)
                · refine bselT hb154 ?_
                  refine bselT hb154 ?_
                  refine bselT hb154 ?_
                  refine bselT hb154 ?_
                  refine bselT hb154 ?_
                  refine bselT hb154 ?_
                  refine bselT hb154 ?_
                  refine bselT hb154 ?_
                  refine qn3098 _ _ ?_
                  obtain rfl := Option.some.inj h143
                  refine EOk.done ?_
                  exact ⟨⟨_, rfl⟩, [], trivial, ⟨⟨rfl, rfl, (by repeat (first | exact trivial | exact rfl | (refine And.intro ?_ ?_))), rfl, rfl, rfl, trivial⟩, ⟨rfl, rfl, trivial⟩, rfl, rfl⟩⟩
                · refine bselF hb154 ?_
                  refine bselF hb154 ?_
                  refine lenM (fun hl155 => ?_)
                  refine bselF hb154 ?_
                  refine bselF hb154 ?_
                  refine bselF hb154 ?_
                  refine bselF hb154 ?_
                  obtain ⟨r156, hr157, h143⟩ := bindM h143
                  show CallOk Try.prog _ _ _ _
                  refine CallOk.as (qcref1_Slots_ok N a0 x139.cls r156 hr157) (by repeat (first | exact trivial | exact rfl | (refine And.intro ?_ ?_))) trivial rfl ?_
                  refine bselF hb154 ?_
                  refine bselF hb154 ?_
                  refine qn3098 _ _ ?_
                  obtain rfl := Option.some.inj h143
                  refine EOk.done ?_
                  exact ⟨⟨_, rfl⟩, [], trivial, ⟨⟨rfl, rfl, (by repeat (first | exact trivial | exact rfl | (refine And.intro ?_ ?_))), rfl, rfl, rfl, trivial⟩, ⟨rfl, rfl, trivial⟩, rfl, rfl⟩⟩
          rintro ⟨v142, hv_⟩
          replace hv_ := hv_.symm
          subst hv_
          refine qn3097 _ _ ?_
          refine goc hn ?_
          refine bselM h135 (fun hb158 h135 => ?_) (fun hb158 h135 => ?_)
          · refine COk.seqQ fun Q3099 qn3099 qx3099 qr3099 => ?_
            refine gor hn ?_
            refine qn3099 _ _ ?_
            refine got hn ?_
            refine qr3096 _ _ ?_
            refine qr3094 _ _ ?_
            refine qr3031 _ _ ?_
            refine qr3026 _ _ ?_
            refine qr3025 _ _ ?_
            refine qr3024 _ _ ?_
            refine qr2866 _ _ ?_
            obtain rfl := Option.some.inj h135
            obtain rfl := Option.some.inj h
            exact ⟨[], _, rfl, (by repeat (first | exact trivial | exact rfl | (refine And.intro ?_ ?_))), trivial, rfl, rfl, rfl, rfl, rfl⟩
          · refine gok hn ?_
            refine qn3096 _ _ ?_
            refine COk.seqQ fun Q3100 qn3100 qx3100 qr3100 => ?_
            refine gor hn ?_
            refine lenM (fun hl159 => ?_)
            refine qn3100 _ _ ?_
            obtain ⟨o161, h162, h135⟩ := bindM h135
            refine COk.joinR (ι := { s : Unit // o161 = Ctl.next s }) (fun s => [(1, .ptr 1 0), (231, .sl 2 (List.map eOb a0.heap)), (232, .int (a0.heap.length : Int)), (233, .int (k133 : Int))]) (fun s => [(1, .box (eWd a0) 26)]) (fun Q3125 qn3125 qx3125 qr3125 => ?_) (by intro s; rw [hn]; rfl) ?_
            · refine COk.blkQ fun Q3126 qn3126 qe3126 qx3126 qr3126 => ?_
              refine COk.loopQ (ι := { q : ((List V) × Nat) // q.1 = x139.slots.drop q.2 ∧ qcref1_Right_l7 N a0 q.1 q.2 = some o161 }) (fun q => [(1, .ptr 1 0), (231, .sl 2 (List.map eOb a0.heap)), (232, .int (a0.heap.length : Int)), (233, .int (k133 : Int)), (269, .sl 2 (List.map eV x139.slots)), (270, .int (x139.slots.length : Int)), (271, .int (q.1.2 : Int))]) (fun q => [(1, .box (eWd a0) 26)]) (fun q => q.1.1.length) ⟨(x139.slots, 0), rfl, h162⟩ [] ⟨⟨rfl, (by repeat (first | exact trivial | exact rfl | (refine And.intro ?_ ?_))), rfl, rfl, (by repeat (first | exact trivial | exact rfl | (refine And.intro ?_ ?_))), rfl, rfl, trivial⟩, ⟨rfl, trivial⟩, rfl, rfl⟩ (by intro q; rw [hn]; rfl) ?_
              rintro ⟨⟨rest_, k160⟩, hd164, h162⟩ Q3127 qn3127 qx3127 qr3127
              replace hd164 : rest_ = x139.slots.drop k160 := hd164
              rcases rest_ with _ | ⟨x166, rest163⟩
              · have hlt168 := restNil hd164
                replace h162 := (qcref1_Right_l7.eq_1 _ _ _).symm.trans h162
                refine COk.seqQ fun Q3128 qn3128 qx3128 qr3128 => ?_
                refine gor hn ?_
                refine qn3128 _ _ ?_
                refine COk.seqQ fun Q3129 qn3129 qx3129 qr3129 => ?_
                refine goc hn ?_
                refine bselF hlt168 ?_
                refine goe hn ?_
                refine qx3129 _ _ _ ?_
                refine qx3127 _ _ _ ?_
                refine qe3126 _ _ ?_
                refine qn3125 _ _ ?_
                obtain rfl := Option.some.inj h162
                refine EOk.done ?_
                exact ⟨⟨_, rfl⟩, [], trivial, ⟨⟨rfl, (by repeat (first | exact trivial | exact rfl | (refine And.intro ?_ ?_))), rfl, rfl, trivial⟩, ⟨rfl, trivial⟩, rfl, rfl⟩⟩
              · obtain ⟨hx167, hd2, hlt168⟩ := restCons hd164
                replace h162 := (qcref1_Right_l7.eq_2 _ _ _ _ _).symm.trans h162
                refine COk.seqQ fun Q3130 qn3130 qx3130 qr3130 => ?_
                refine gor hn ?_
                refine qn3130 _ _ ?_
                refine COk.seqQ fun Q3131 qn3131 qx3131 qr3131 => ?_
                refine goc hn ?_
                refine bselT hlt168 ?_
                refine gok hn ?_
                refine qn3131 _ _ ?_
                refine COk.seqQ fun Q3132 qn3132 qx3132 qr3132 => ?_
                refine COk.blkQ fun Q3133 qn3133 qe3133 qx3133 qr3133 => ?_
                refine COk.seqQ fun Q3134 qn3134 qx3134 qr3134 => ?_
                refine gor hn ?_
                refine idxK hx167 ?_
                refine qn3134 _ _ ?_
                refine COk.seqQ fun Q3135 qn3135 qx3135 qr3135 => ?_
                refine gor hn ?_
                refine lenM (fun hl169 => ?_)
                obtain ⟨r170, hr171, h162⟩ := bindM h162
                show CallOk Try.prog _ _ _ _
                refine CallOk.as (qcref1_Wrong_ok N x166 (a0.heap.length : Int) r170 hr171) (by repeat (first | exact trivial | exact rfl | (refine And.intro ?_ ?_))) trivial rfl ?_
                refine qn3135 _ _ ?_
                refine COk.seqQ fun Q3136 qn3136 qx3136 qr3136 => ?_
                refine COk.sub (ts2 := [(1, .ptr 1 0), (22, .int r170), (231, .sl 2 (List.map eOb a0.heap)), (232, .int (a0.heap.length : Int)), (233, .int (k133 : Int)), (269, .sl 2 (List.map eV x139.slots)), (270, .int (x139.slots.length : Int)), (271, .int (k160 : Int))]) (os2 := [(1, .box (eWd a0) 26)]) [] ⟨⟨rfl, rfl, (by repeat (first | exact trivial | exact rfl | (refine And.intro ?_ ?_))), rfl, rfl, (by repeat (first | exact trivial | exact rfl | (refine And.intro ?_ ?_))), rfl, rfl, trivial⟩, ⟨rfl, trivial⟩, rfl, rfl⟩ (by rw [hn]; rfl) ?_
                refine gor hn ?_
                refine qn3136 _ _ ?_
                refine goc hn ?_
                refine bselM h162 (fun hb172 h162 => ?_) (fun hb172 h162 => ?_)
                · refine COk.seqQ fun Q3137 qn3137 qx3137 qr3137 => ?_
                  refine gor hn ?_
                  refine qn3137 _ _ ?_
                  refine got hn ?_
                  refine qr3133 _ _ ?_
                  refine qr3132 _ _ ?_
                  refine qr3127 _ _ ?_
                  refine qr3126 _ _ ?_
                  refine qr3125 _ _ ?_
                  refine qr3094 _ _ ?_
                  refine qr3031 _ _ ?_
                  refine qr3026 _ _ ?_
                  refine qr3025 _ _ ?_
                  refine qr3024 _ _ ?_
                  refine qr2866 _ _ ?_
                  obtain rfl := Option.some.inj h162
                  obtain rfl := Option.some.inj h135
                  obtain rfl := Option.some.inj h
                  exact ⟨[], _, rfl, (by repeat (first | exact trivial | exact rfl | (refine And.intro ?_ ?_))), trivial, rfl, rfl, rfl, rfl, rfl⟩
                · refine gok hn ?_
                  refine qn3133 _ _ ?_
                  refine qn3132 _ _ ?_
                  refine gor hn ?_
                  refine Or.inl (And.intro (inrK hx167 hl159) ?_)
                  refine qn3127 _ _ ?_
                  refine EOk.done ?_
                  exact ⟨⟨(rest163, k160 + 1), hd2, h162⟩, [], by show rest163.length < rest163.length + 1; omega, ⟨⟨rfl, (by repeat (first | exact trivial | exact rfl | (refine And.intro ?_ ?_))), rfl, rfl, (by repeat (first | exact trivial | exact rfl | (refine And.intro ?_ ?_))), rfl, rfl, trivial⟩, ⟨rfl, trivial⟩, rfl, rfl⟩⟩
            rintro ⟨⟨⟩, rfl⟩
            refine qn3094 _ _ ?_
            refine qn3031 _ _ ?_
            refine gor hn ?_
            refine Or.inl (And.intro (inrK hx140 hl132) ?_)
            refine qn3026 _ _ ?_
            refine EOk.done ?_
            exact ⟨⟨(rest136, k133 + 1), hd2, h135⟩, [], by show rest136.length < rest136.length + 1; omega, ⟨⟨rfl, (by repeat (first | exact trivial | exact rfl | (refine And.intro ?_ ?_))), rfl, rfl, trivial⟩, ⟨rfl, trivial⟩, rfl, rfl⟩⟩
      rintro ⟨⟨⟩, rfl⟩
      refine qn2866 _ _ ?_
      refine COk.seqQ fun Q3138 qn3138 qx3138 qr3138 => ?_
      refine gor hn ?_
      refine qn3138 _ _ ?_
      refine got hn ?_
      obtain rfl := Option.some.inj h
      exact ⟨[], _, rfl, (by repeat (first | exact trivial | exact rfl | (refine And.intro ?_ ?_))), trivial, rfl, rfl, rfl, rfl, rfl⟩
end Go.Proofs.Ytoceeiamcfdnlaa
