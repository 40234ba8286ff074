/- Walks after the mirrors. Printed by mir.py. -/
import Derived.Test.YtioalgofaiideaaMir
import Derived.Test.YtioalgofaiideaaYnew
namespace Go.Proofs.Ytioalgofaiideaa
open Go.RowKit
set_option linter.unusedVariables false
/- class.Name -/
set_option maxRecDepth 100000 in
set_option maxHeartbeats 1000000 in
theorem class_Name_ok (N : Nat) (a0 : ByteArray) (r : Bool) (h : class_Name N a0 = some r) : Spec Try.prog 72 [] [.str a0] (.bool r) [] [] := by
  refine Spec.of tabOk Try.func72 rfl Try.ntmps72 (by kernel_rfl) rfl rfl rfl fun Γ hn => ?_
  unfold class_Name at h
  refine COk.seqQ fun Q51 qn51 qx51 qr51 => ?_
  refine gor hn ?_
  refine qn51 _ _ ?_
  refine COk.seqQ fun Q52 qn52 qx52 qr52 => ?_
  refine COk.seqQ fun Q53 qn53 qx53 qr53 => ?_
  obtain ⟨o3, h2, h⟩ := bindM h
  refine COk.joinR (ι := { s : Bool // o3 = s }) (fun s => [(0, .str a0), (11, .bool s.1)]) (fun s => []) (fun Q54 qn54 qx54 qr54 => ?_) (by intro s; rw [hn]; rfl) ?_
  · refine gor hn ?_
    intro hl4
    refine bselM h2 (fun hb5 h2 => ?_) (fun hb5 h2 => ?_)
    · refine bselT hb5 ?_
      refine bselT hb5 ?_
      refine bselT hb5 ?_
      refine qn54 _ _ ?_
      obtain rfl := Option.some.inj h2
      refine EOk.done ?_
      exact ⟨⟨_, rfl⟩, [], trivial, ⟨⟨rfl, rfl, trivial⟩, trivial, rfl, rfl⟩⟩
    · refine bselF hb5 ?_
      intro hl6
      refine bselF hb5 ?_
      refine bselF hb5 ?_
      refine qn54 _ _ ?_
      obtain rfl := Option.some.inj h2
      refine EOk.done ?_
      exact ⟨⟨_, rfl⟩, [], trivial, ⟨⟨rfl, rfl, trivial⟩, trivial, rfl, rfl⟩⟩
  rintro ⟨v1, hv_⟩
  replace hv_ := hv_.symm
  subst hv_
  refine qn53 _ _ ?_
  refine goc hn ?_
  refine bselM h (fun hb7 h => ?_) (fun hb7 h => ?_)
  · refine COk.seqQ fun Q56 qn56 qx56 qr56 => ?_
    refine gor hn ?_
    refine qn56 _ _ ?_
    refine got hn ?_
    refine qr52 _ _ ?_
    obtain rfl := Option.some.inj h
    exact ⟨[], _, rfl, (by repeat (first | exact trivial | exact rfl | (refine And.intro ?_ ?_))), trivial, rfl, rfl, rfl, rfl, rfl⟩
  · refine gok hn ?_
    refine qn52 _ _ ?_
    refine COk.seqQ fun Q57 qn57 qx57 qr57 => ?_
    refine COk.seqQ fun Q58 qn58 qx58 qr58 => ?_
    refine gor hn ?_
    intro hl8
    refine qn58 _ _ ?_
    refine COk.rng 13 rfl (fun hrn => ?_)
    obtain ⟨o10, h11, h⟩ := bindM h
    refine COk.joinR (ι := { s : Unit // o10 = Ctl.next s }) (fun s => []) (fun s => []) (fun Q81 qn81 qx81 qr81 => ?_) (by intro s; rw [hn]; rfl) ?_
    · refine COk.blkQ fun Q82 qn82 qe82 qx82 qr82 => ?_
      refine COk.loopQ (ι := { q : (Nat × Nat) // q.1 = ((a0.size : Int) - (q.2 : Int)).toNat ∧ class_Name_l1 N a0 q.1 q.2 = some o10 }) (fun q => [(0, .str a0), (13, .int (a0.size : Int)), (14, .int (q.1.2 : Int))]) (fun q => []) (fun q => q.1.1) ⟨(((a0.size : Int) - ((0 : Nat) : Int)).toNat, 0), rfl, h11⟩ [] ⟨⟨rfl, rfl, rfl, trivial⟩, trivial, rfl, rfl⟩ (by intro q; rw [hn]; rfl) ?_
      rintro ⟨⟨n_, k9⟩, hd13, h11⟩ Q83 qn83 qx83 qr83
      replace hd13 : n_ = ((a0.size : Int) - (k9 : Int)).toNat := hd13
      rcases n_ with _ | n14
      · have hlt17 := upNil hd13
        replace h11 := (class_Name_l1.eq_1 _ _ _).symm.trans h11
        refine COk.seqQ fun Q84 qn84 qx84 qr84 => ?_
        refine gor hn ?_
        refine qn84 _ _ ?_
        refine COk.seqQ fun Q85 qn85 qx85 qr85 => ?_
        refine goc hn ?_
        refine bselF hlt17 ?_
        refine goe hn ?_
        refine qx85 _ _ _ ?_
        refine qx83 _ _ _ ?_
        refine qe82 _ _ ?_
        refine qn81 _ _ ?_
        obtain rfl := Option.some.inj h11
        refine EOk.done ?_
        exact ⟨⟨_, rfl⟩, [], trivial, ⟨trivial, trivial, rfl, rfl⟩⟩
      · obtain ⟨hd2, hlt17⟩ := upCons hd13
        replace h11 := (class_Name_l1.eq_2 _ _ _ _).symm.trans h11
        refine COk.seqQ fun Q86 qn86 qx86 qr86 => ?_
        refine gor hn ?_
        refine qn86 _ _ ?_
        refine COk.seqQ fun Q87 qn87 qx87 qr87 => ?_
        refine goc hn ?_
        refine bselT hlt17 ?_
        refine gok hn ?_
        refine qn87 _ _ ?_
        refine COk.seqQ fun Q88 qn88 qx88 qr88 => ?_
        refine COk.blkQ fun Q95 qn95 qe95 qx95 qr95 => ?_
        refine COk.seqQ fun Q96 qn96 qx96 qr96 => ?_
        refine gor hn ?_
        refine qn96 _ _ ?_
        refine COk.seqQ fun Q97 qn97 qx97 qr97 => ?_
        obtain ⟨o20, h19, h11⟩ := bindM h11
        refine COk.joinR (ι := { s : Bool // o20 = s }) (fun s => [(0, .str a0), (13, .int (a0.size : Int)), (14, .int (k9 : Int)), (26, .bool s.1)]) (fun s => []) (fun Q98 qn98 qx98 qr98 => ?_) (by intro s; rw [hn]; rfl) ?_
        · refine gor hn ?_
          obtain ⟨u21, hx22, h19⟩ := bindM h19
          refine byM hx22 ?_
          refine And.intro rfl ?_
          refine bselM h19 (fun hb23 h19 => ?_) (fun hb23 h19 => ?_)
          · refine bselT hb23 ?_
            refine bselT hb23 ?_
            refine bselT hb23 ?_
            refine bselT hb23 ?_
            refine qn98 _ _ ?_
            obtain rfl := Option.some.inj h19
            refine EOk.done ?_
            exact ⟨⟨_, rfl⟩, [], trivial, ⟨⟨rfl, rfl, rfl, rfl, trivial⟩, trivial, rfl, rfl⟩⟩
          · refine bselF hb23 ?_
            refine bselF hb23 ?_
            obtain ⟨u24, hx25, h19⟩ := bindM h19
            refine byM hx25 ?_
            refine bselF hb23 ?_
            refine And.intro rfl ?_
            refine bselF hb23 ?_
            refine qn98 _ _ ?_
            obtain rfl := Option.some.inj h19
            refine EOk.done ?_
            exact ⟨⟨_, rfl⟩, [], trivial, ⟨⟨rfl, rfl, rfl, rfl, trivial⟩, trivial, rfl, rfl⟩⟩
        rintro ⟨v18, hv_⟩
        replace hv_ := hv_.symm
        subst hv_
        refine qn97 _ _ ?_
        refine goc hn ?_
        refine bselM h11 (fun hb26 h11 => ?_) (fun hb26 h11 => ?_)
        · refine COk.seqQ fun Q99 qn99 qx99 qr99 => ?_
          refine gor hn ?_
          refine qn99 _ _ ?_
          refine got hn ?_
          refine qr95 _ _ ?_
          refine qr88 _ _ ?_
          refine qr83 _ _ ?_
          refine qr82 _ _ ?_
          refine qr81 _ _ ?_
          refine qr57 _ _ ?_
          obtain rfl := Option.some.inj h11
          obtain rfl := Option.some.inj h
          exact ⟨[], _, rfl, (by repeat (first | exact trivial | exact rfl | (refine And.intro ?_ ?_))), trivial, rfl, rfl, rfl, rfl, rfl⟩
        · refine gok hn ?_
          refine qn95 _ _ ?_
          refine qn88 _ _ ?_
          refine gor hn ?_
          refine Or.inl (And.intro (inrU hlt17 hrn) ?_)
          refine qn83 _ _ ?_
          refine EOk.done ?_
          exact ⟨⟨(n14, k9 + 1), hd2, h11⟩, [], by show n14 < n14 + 1; omega, ⟨⟨rfl, rfl, rfl, trivial⟩, trivial, rfl, rfl⟩⟩
    rintro ⟨⟨⟩, rfl⟩
    refine qn57 _ _ ?_
    refine COk.seqQ fun Q100 qn100 qx100 qr100 => ?_
    refine gor hn ?_
    refine qn100 _ _ ?_
    refine got hn ?_
    obtain rfl := Option.some.inj h
    exact ⟨[], _, rfl, (by repeat (first | exact trivial | exact rfl | (refine And.intro ?_ ?_))), trivial, rfl, rfl, rfl, rfl, rfl⟩

/- code.numbers$1 -/
set_option maxRecDepth 100000 in
set_option maxHeartbeats 1000000 in
theorem code_numbers_1_ok (N : Nat) (a0 : Int) (a1 : Int) (r : Bool) (h : code_numbers_1 N a0 a1 = some r) : Spec Try.prog 79 [] [.int a0, .int a1] (.bool r) [] [] := by
  refine Spec.of tabOk Try.func79 rfl Try.ntmps79 (by kernel_rfl) rfl rfl rfl fun Γ hn => ?_
  unfold code_numbers_1 at h
  refine COk.seqQ fun Q4 qn4 qx4 qr4 => ?_
  refine gor hn ?_
  refine qn4 _ _ ?_
  refine COk.seqQ fun Q5 qn5 qx5 qr5 => ?_
  obtain ⟨o3, h2, h⟩ := bindM h
  refine COk.joinR (ι := { s : Bool // o3 = s }) (fun s => [(4, .bool s.1)]) (fun s => []) (fun Q6 qn6 qx6 qr6 => ?_) (by intro s; rw [hn]; rfl) ?_
  · refine gor hn ?_
    refine bselM h2 (fun hb4 h2 => ?_) (fun hb4 h2 => ?_)
    · refine bselT hb4 ?_
      refine bselT hb4 ?_
      refine bselT hb4 ?_
      refine qn6 _ _ ?_
      obtain rfl := Option.some.inj h2
      refine EOk.done ?_
      exact ⟨⟨_, rfl⟩, [], trivial, ⟨⟨rfl, trivial⟩, trivial, rfl, rfl⟩⟩
    · refine bselF hb4 ?_
      refine bselF hb4 ?_
      refine bselF hb4 ?_
      refine qn6 _ _ ?_
      obtain rfl := Option.some.inj h2
      refine EOk.done ?_
      exact ⟨⟨_, rfl⟩, [], trivial, ⟨⟨rfl, trivial⟩, trivial, rfl, rfl⟩⟩
  rintro ⟨v1, hv_⟩
  replace hv_ := hv_.symm
  subst hv_
  refine qn5 _ _ ?_
  refine got hn ?_
  obtain rfl := Option.some.inj h
  exact ⟨[], _, rfl, (by repeat (first | exact trivial | exact rfl | (refine And.intro ?_ ?_))), trivial, rfl, rfl, rfl, rfl, rfl⟩

/- class.Slots -/
set_option maxRecDepth 100000 in
set_option maxHeartbeats 1000000 in
theorem class_Slots_ok (N : Nat) (a0 : Wd) (a1 : Int) (r : Int) (h : class_Slots N a0 a1 = some r) : Spec Try.prog 80 [] [.agg (eWd a0), .int a1] (.int r) [] [] := by
  refine Spec.of tabOk Try.func80 rfl Try.ntmps80 (by kernel_rfl) rfl rfl rfl fun Γ hn => ?_
  unfold class_Slots at h
  refine COk.seqQ fun Q41 qn41 qx41 qr41 => ?_
  refine gor hn ?_
  refine qn41 _ _ ?_
  refine COk.seqQ fun Q42 qn42 qx42 qr42 => ?_
  refine gor hn ?_
  refine qn42 _ _ ?_
  refine COk.seqQ fun Q43 qn43 qx43 qr43 => ?_
  refine COk.seqQ fun Q44 qn44 qx44 qr44 => ?_
  refine gor hn ?_
  refine qn44 _ _ ?_
  obtain ⟨o9, h10, h⟩ := bindM h
  refine COk.joinR (ι := { s : Int // o9 = s }) (fun s => [(5, .int s.1)]) (fun s => []) (fun Q69 qn69 qx69 qr69 => ?_) (by intro s; rw [hn]; rfl) ?_
  · refine COk.blkQ fun Q70 qn70 qe70 qx70 qr70 => ?_
    refine COk.loopQ (ι := { q : (Nat × Int × Int × Int) // class_Slots_l1 N a0 q.1 q.2.1 q.2.2.1 q.2.2.2 = some o9 }) (fun q => [(1, .int q.1.2.1), (2, .ptr 2 0), (5, .int q.1.2.2.1), (6, .int q.1.2.2.2)]) (fun q => [(2, .box (eWd a0) 55)]) (fun q => q.1.1) ⟨(N, a1, (0 : Int), (0 : Int)), h10⟩ [] ⟨⟨rfl, rfl, rfl, rfl, trivial⟩, ⟨rfl, trivial⟩, rfl, rfl⟩ (by intro q; rw [hn]; rfl) ?_
    rintro ⟨⟨n_, v2, v3, v4⟩, h10⟩ Q71 qn71 qx71 qr71
    rcases n_ with _ | n13
    · rw [class_Slots_l1.eq_1] at h10
      cases h10
    · replace h10 := (class_Slots_l1.eq_2 _ _ _ _ _ _).symm.trans h10
      refine COk.seqQ fun Q72 qn72 qx72 qr72 => ?_
      refine COk.seqQ fun Q73 qn73 qx73 qr73 => ?_
      obtain ⟨o16, h15, h10⟩ := bindM h10
      refine COk.joinR (ι := { s : Bool // o16 = s }) (fun s => [(1, .int v2), (2, .ptr 2 0), (5, .int v3), (6, .int v4), (22, .bool s.1)]) (fun s => [(2, .box (eWd a0) 55)]) (fun Q74 qn74 qx74 qr74 => ?_) (by intro s; rw [hn]; rfl) ?_
      · refine gor hn ?_
        refine bselM h15 (fun hb17 h15 => ?_) (fun hb17 h15 => ?_)
        · refine bselT hb17 ?_
          refine bselT hb17 ?_
          refine bselT hb17 ?_
          refine lenM (fun hl18 => ?_)
          refine bselT hb17 ?_
          refine bselT hb17 ?_
          refine bselM h15 (fun hb19 h15 => ?_) (fun hb19 h15 => ?_)
          · refine bselT hb19 ?_
            refine bselT hb19 ?_
            refine bselT hb19 ?_
            refine lenM (fun hl20 => ?_)
            refine bselT hb19 ?_
            refine bselT hb19 ?_
            refine qn74 _ _ ?_
            obtain rfl := Option.some.inj h15
            refine EOk.done ?_
            exact ⟨⟨_, rfl⟩, [], trivial, ⟨⟨rfl, rfl, rfl, rfl, rfl, trivial⟩, ⟨rfl, trivial⟩, rfl, rfl⟩⟩
          · refine bselF hb19 ?_
            refine bselF hb19 ?_
            refine bselF hb19 ?_
            refine bselF hb19 ?_
            refine bselF hb19 ?_
            refine qn74 _ _ ?_
            obtain rfl := Option.some.inj h15
            refine EOk.done ?_
            exact ⟨⟨_, rfl⟩, [], trivial, ⟨⟨rfl, rfl, rfl, rfl, rfl, trivial⟩, ⟨rfl, trivial⟩, rfl, rfl⟩⟩
        · refine bselF hb17 ?_
          refine bselF hb17 ?_
          refine bselF hb17 ?_
          refine bselF hb17 ?_
          refine bselF hb17 ?_
          refine qn74 _ _ ?_
          obtain rfl := Option.some.inj h15
          refine EOk.done ?_
          exact ⟨⟨_, rfl⟩, [], trivial, ⟨⟨rfl, rfl, rfl, rfl, rfl, trivial⟩, ⟨rfl, trivial⟩, rfl, rfl⟩⟩
      rintro ⟨v14, hv_⟩
      replace hv_ := hv_.symm
      subst hv_
      refine qn73 _ _ ?_
      refine goc hn ?_
      refine bselM h10 (fun hb21 h10 => ?_) (fun hb21 h10 => ?_)
      · refine gok hn ?_
        refine qn72 _ _ ?_
        refine COk.seqQ fun Q75 qn75 qx75 qr75 => ?_
        refine COk.blkQ fun Q78 qn78 qe78 qx78 qr78 => ?_
        refine COk.seqQ fun Q79 qn79 qx79 qr79 => ?_
        refine gor hn ?_
        obtain ⟨x22, hx23, h10⟩ := bindM h10
        refine idxM hx23 ?_
        refine Or.inr ?_
        refine qn79 _ _ ?_
        refine gor hn ?_
        obtain ⟨x24, hx25, h10⟩ := bindM h10
        refine idxM hx25 ?_
        refine qn78 _ _ ?_
        refine qn75 _ _ ?_
        refine COk.sub (ts2 := [(1, .int x24.super), (2, .ptr 2 0), (5, .int (wr (v3 + x22.slots))), (6, .int v4)]) (os2 := [(2, .box (eWd a0) 55)]) [] ⟨⟨rfl, rfl, rfl, rfl, trivial⟩, ⟨rfl, trivial⟩, rfl, rfl⟩ (by rw [hn]; rfl) ?_
        refine gor hn ?_
        refine Or.inr ?_
        refine qn71 _ _ ?_
        refine EOk.done ?_
        exact ⟨⟨(n13, x24.super, (wr (v3 + x22.slots)), (wr (v4 + (1 : Int)))), h10⟩, [], by show n13 < n13 + 1; omega, ⟨⟨rfl, rfl, rfl, rfl, trivial⟩, ⟨rfl, trivial⟩, rfl, rfl⟩⟩
      · refine goe hn ?_
        refine qx72 _ _ _ ?_
        refine qx71 _ _ _ ?_
        refine qe70 _ _ ?_
        refine qn69 _ _ ?_
        obtain rfl := Option.some.inj h10
        refine EOk.done ?_
        exact ⟨⟨_, rfl⟩, [], trivial, ⟨⟨rfl, trivial⟩, trivial, rfl, rfl⟩⟩
  rintro ⟨v8, hv_⟩
  replace hv_ := hv_.symm
  subst hv_
  refine qn43 _ _ ?_
  refine COk.seqQ fun Q80 qn80 qx80 qr80 => ?_
  refine gor hn ?_
  refine qn80 _ _ ?_
  refine got hn ?_
  obtain rfl := Option.some.inj h
  exact ⟨[], _, rfl, (by repeat (first | exact trivial | exact rfl | (refine And.intro ?_ ?_))), trivial, rfl, rfl, rfl, rfl, rfl⟩

/- code.numbers -/
set_option maxRecDepth 100000 in
set_option maxHeartbeats 1000000 in
theorem code_numbers_ok (N : Nat) (a0 : Wd) (a1 : Int) (a2 : Me) (a3 : Ins) (r : Int) (h : code_numbers N a0 a1 a2 a3 = some r) : Spec Try.prog 73 [] [.fp (eWd a0), .int a1, .fp (eMe a2), .agg (eIns a3)] (.int r) [] [] := by
  refine Spec.of tabOk Try.func73 rfl Try.ntmps73 (by kernel_rfl) rfl rfl rfl fun Γ hn => ?_
  unfold code_numbers at h
  refine COk.seqQ fun Q1203 qn1203 qx1203 qr1203 => ?_
  refine gor hn ?_
  refine qn1203 _ _ ?_
  refine COk.seqQ fun Q1204 qn1204 qx1204 qr1204 => ?_
  refine gor hn ?_
  refine qn1204 _ _ ?_
  refine COk.seqQ fun Q1205 qn1205 qx1205 qr1205 => ?_
  refine gor hn ?_
  refine qn1205 _ _ ?_
  refine COk.seqQ fun Q1206 qn1206 qx1206 qr1206 => ?_
  refine COk.seqQ fun Q1207 qn1207 qx1207 qr1207 => ?_
  refine gor hn ?_
  refine qn1207 _ _ ?_
  refine COk.blkQ fun Q2349 qn2349 qe2349 qx2349 qr2349 => ?_
  refine COk.seqQ fun Q2350 qn2350 qx2350 qr2350 => ?_
  refine COk.seqQ fun Q2351 qn2351 qx2351 qr2351 => ?_
  refine gor hn ?_
  refine qn2351 _ _ ?_
  obtain ⟨o3, h2, h⟩ := bindM h
  refine COk.joinR (ι := { s : Bool // o3 = s }) (fun s => [(0, .fp (eWd a0)), (1, .int a1), (2, .fp (eMe a2)), (7, .ptr 7 0), (9, .fn 79 []), (11, .bool false), (13, .int a3.op), (14, .bool s.1)]) (fun s => [(7, .box (eIns a3) 81)]) (fun Q2352 qn2352 qx2352 qr2352 => ?_) (by intro s; rw [hn]; rfl) ?_
  · refine goc hn ?_
    refine bselM h2 (fun hb4 h2 => ?_) (fun hb4 h2 => ?_)
    · refine gok hn ?_
      refine qn2352 _ _ ?_
      obtain rfl := Option.some.inj h2
      refine EOk.done ?_
      exact ⟨⟨_, rfl⟩, [], trivial, ⟨⟨(by repeat (first | exact trivial | exact rfl | (refine And.intro ?_ ?_))), rfl, (by repeat (first | exact trivial | exact rfl | (refine And.intro ?_ ?_))), rfl, (by repeat (first | exact trivial | exact rfl | (refine And.intro ?_ ?_))), rfl, rfl, rfl, trivial⟩, ⟨rfl, trivial⟩, rfl, rfl⟩⟩
    · refine COk.seqQ fun Q2353 qn2353 qx2353 qr2353 => ?_
      refine gor hn ?_
      refine qn2353 _ _ ?_
      obtain ⟨o7, h6, h2⟩ := bindM h2
      refine COk.joinR (ι := { s : Bool // o7 = s }) (fun s => [(0, .fp (eWd a0)), (1, .int a1), (2, .fp (eMe a2)), (7, .ptr 7 0), (9, .fn 79 []), (11, .bool false), (13, .int a3.op), (14, .bool s.1)]) (fun s => [(7, .box (eIns a3) 81)]) (fun Q2354 qn2354 qx2354 qr2354 => ?_) (by intro s; rw [hn]; rfl) ?_
      · refine goc hn ?_
        refine bselM h6 (fun hb8 h6 => ?_) (fun hb8 h6 => ?_)
        · refine gok hn ?_
          refine qn2354 _ _ ?_
          obtain rfl := Option.some.inj h6
          refine EOk.done ?_
          exact ⟨⟨_, rfl⟩, [], trivial, ⟨⟨(by repeat (first | exact trivial | exact rfl | (refine And.intro ?_ ?_))), rfl, (by repeat (first | exact trivial | exact rfl | (refine And.intro ?_ ?_))), rfl, (by repeat (first | exact trivial | exact rfl | (refine And.intro ?_ ?_))), rfl, rfl, rfl, trivial⟩, ⟨rfl, trivial⟩, rfl, rfl⟩⟩
        · refine COk.seqQ fun Q2355 qn2355 qx2355 qr2355 => ?_
          refine gor hn ?_
          refine qn2355 _ _ ?_
          obtain ⟨o11, h10, h6⟩ := bindM h6
          refine COk.joinR (ι := { s : Bool // o11 = s }) (fun s => [(0, .fp (eWd a0)), (1, .int a1), (2, .fp (eMe a2)), (7, .ptr 7 0), (9, .fn 79 []), (11, .bool false), (13, .int a3.op), (14, .bool s.1)]) (fun s => [(7, .box (eIns a3) 81)]) (fun Q2356 qn2356 qx2356 qr2356 => ?_) (by intro s; rw [hn]; rfl) ?_
          · refine goc hn ?_
            refine bselM h10 (fun hb12 h10 => ?_) (fun hb12 h10 => ?_)
            · refine gok hn ?_
              refine qn2356 _ _ ?_
              obtain rfl := Option.some.inj h10
              refine EOk.done ?_
              exact ⟨⟨_, rfl⟩, [], trivial, ⟨⟨(by repeat (first | exact trivial | exact rfl | (refine And.intro ?_ ?_))), rfl, (by repeat (first | exact trivial | exact rfl | (refine And.intro ?_ ?_))), rfl, (by repeat (first | exact trivial | exact rfl | (refine And.intro ?_ ?_))), rfl, rfl, rfl, trivial⟩, ⟨rfl, trivial⟩, rfl, rfl⟩⟩
            · refine COk.seqQ fun Q2357 qn2357 qx2357 qr2357 => ?_
              refine gor hn ?_
              refine qn2357 _ _ ?_
              obtain ⟨o15, h14, h10⟩ := bindM h10
              refine COk.joinR (ι := { s : Bool // o15 = s }) (fun s => [(0, .fp (eWd a0)), (1, .int a1), (2, .fp (eMe a2)), (7, .ptr 7 0), (9, .fn 79 []), (11, .bool false), (13, .int a3.op), (14, .bool s.1)]) (fun s => [(7, .box (eIns a3) 81)]) (fun Q2358 qn2358 qx2358 qr2358 => ?_) (by intro s; rw [hn]; rfl) ?_
              · refine goc hn ?_
                refine bselM h14 (fun hb16 h14 => ?_) (fun hb16 h14 => ?_)
                · refine gok hn ?_
                  refine qn2358 _ _ ?_
                  obtain rfl := Option.some.inj h14
                  refine EOk.done ?_
                  exact ⟨⟨_, rfl⟩, [], trivial, ⟨⟨(by repeat (first | exact trivial | exact rfl | (refine And.intro ?_ ?_))), rfl, (by repeat (first | exact trivial | exact rfl | (refine And.intro ?_ ?_))), rfl, (by repeat (first | exact trivial | exact rfl | (refine And.intro ?_ ?_))), rfl, rfl, rfl, trivial⟩, ⟨rfl, trivial⟩, rfl, rfl⟩⟩
                · refine COk.seqQ fun Q2359 qn2359 qx2359 qr2359 => ?_
                  refine gor hn ?_
                  refine qn2359 _ _ ?_
                  obtain ⟨o19, h18, h14⟩ := bindM h14
                  refine COk.joinR (ι := { s : Bool // o19 = s }) (fun s => [(0, .fp (eWd a0)), (1, .int a1), (2, .fp (eMe a2)), (7, .ptr 7 0), (9, .fn 79 []), (11, .bool false), (13, .int a3.op), (14, .bool s.1)]) (fun s => [(7, .box (eIns a3) 81)]) (fun Q2360 qn2360 qx2360 qr2360 => ?_) (by intro s; rw [hn]; rfl) ?_
                  · refine goc hn ?_
                    refine bselM h18 (fun hb20 h18 => ?_) (fun hb20 h18 => ?_)
                    · refine gok hn ?_
                      refine qn2360 _ _ ?_
                      obtain rfl := Option.some.inj h18
                      refine EOk.done ?_
                      exact ⟨⟨_, rfl⟩, [], trivial, ⟨⟨(by repeat (first | exact trivial | exact rfl | (refine And.intro ?_ ?_))), rfl, (by repeat (first | exact trivial | exact rfl | (refine And.intro ?_ ?_))), rfl, (by repeat (first | exact trivial | exact rfl | (refine And.intro ?_ ?_))), rfl, rfl, rfl, trivial⟩, ⟨rfl, trivial⟩, rfl, rfl⟩⟩
                    · refine COk.seqQ fun Q2361 qn2361 qx2361 qr2361 => ?_
                      refine COk.sub (ts2 := [(0, .fp (eWd a0)), (1, .int a1), (2, .fp (eMe a2)), (7, .ptr 7 0), (9, .fn 79 []), (11, .bool false), (13, .int a3.op)]) (os2 := [(7, .box (eIns a3) 81)]) [] ⟨⟨(by repeat (first | exact trivial | exact rfl | (refine And.intro ?_ ?_))), rfl, (by repeat (first | exact trivial | exact rfl | (refine And.intro ?_ ?_))), rfl, (by repeat (first | exact trivial | exact rfl | (refine And.intro ?_ ?_))), rfl, rfl, trivial⟩, ⟨rfl, trivial⟩, rfl, rfl⟩ (by rw [hn]; rfl) ?_
                      refine gor hn ?_
                      refine qn2361 _ _ ?_
                      obtain ⟨o23, h22, h18⟩ := bindM h18
                      refine COk.joinR (ι := { s : Bool // o23 = s }) (fun s => [(0, .fp (eWd a0)), (1, .int a1), (2, .fp (eMe a2)), (7, .ptr 7 0), (9, .fn 79 []), (11, .bool false), (13, .int a3.op), (14, .bool s.1)]) (fun s => [(7, .box (eIns a3) 81)]) (fun Q2362 qn2362 qx2362 qr2362 => ?_) (by intro s; rw [hn]; rfl) ?_
                      · refine goc hn ?_
                        refine bselM h22 (fun hb24 h22 => ?_) (fun hb24 h22 => ?_)
                        · refine gok hn ?_
                          refine qn2362 _ _ ?_
                          obtain rfl := Option.some.inj h22
                          refine EOk.done ?_
                          exact ⟨⟨_, rfl⟩, [], trivial, ⟨⟨(by repeat (first | exact trivial | exact rfl | (refine And.intro ?_ ?_))), rfl, (by repeat (first | exact trivial | exact rfl | (refine And.intro ?_ ?_))), rfl, (by repeat (first | exact trivial | exact rfl | (refine And.intro ?_ ?_))), rfl, rfl, rfl, trivial⟩, ⟨rfl, trivial⟩, rfl, rfl⟩⟩
                        · refine gor hn ?_
                          refine qn2362 _ _ ?_
                          obtain rfl := Option.some.inj h22
                          refine EOk.done ?_
                          exact ⟨⟨_, rfl⟩, [], trivial, ⟨⟨(by repeat (first | exact trivial | exact rfl | (refine And.intro ?_ ?_))), rfl, (by repeat (first | exact trivial | exact rfl | (refine And.intro ?_ ?_))), rfl, (by repeat (first | exact trivial | exact rfl | (refine And.intro ?_ ?_))), rfl, rfl, rfl, trivial⟩, ⟨rfl, trivial⟩, rfl, rfl⟩⟩
                      rintro ⟨v21, hv_⟩
                      replace hv_ := hv_.symm
                      subst hv_
                      refine qn2360 _ _ ?_
                      obtain rfl := Option.some.inj h18
                      refine EOk.done ?_
                      exact ⟨⟨_, rfl⟩, [], trivial, ⟨⟨(by repeat (first | exact trivial | exact rfl | (refine And.intro ?_ ?_))), rfl, (by repeat (first | exact trivial | exact rfl | (refine And.intro ?_ ?_))), rfl, (by repeat (first | exact trivial | exact rfl | (refine And.intro ?_ ?_))), rfl, rfl, rfl, trivial⟩, ⟨rfl, trivial⟩, rfl, rfl⟩⟩
                  rintro ⟨v17, hv_⟩
                  replace hv_ := hv_.symm
                  subst hv_
                  refine qn2358 _ _ ?_
                  obtain rfl := Option.some.inj h14
                  refine EOk.done ?_
                  exact ⟨⟨_, rfl⟩, [], trivial, ⟨⟨(by repeat (first | exact trivial | exact rfl | (refine And.intro ?_ ?_))), rfl, (by repeat (first | exact trivial | exact rfl | (refine And.intro ?_ ?_))), rfl, (by repeat (first | exact trivial | exact rfl | (refine And.intro ?_ ?_))), rfl, rfl, rfl, trivial⟩, ⟨rfl, trivial⟩, rfl, rfl⟩⟩
              rintro ⟨v13, hv_⟩
              replace hv_ := hv_.symm
              subst hv_
              refine qn2356 _ _ ?_
              obtain rfl := Option.some.inj h10
              refine EOk.done ?_
              exact ⟨⟨_, rfl⟩, [], trivial, ⟨⟨(by repeat (first | exact trivial | exact rfl | (refine And.intro ?_ ?_))), rfl, (by repeat (first | exact trivial | exact rfl | (refine And.intro ?_ ?_))), rfl, (by repeat (first | exact trivial | exact rfl | (refine And.intro ?_ ?_))), rfl, rfl, rfl, trivial⟩, ⟨rfl, trivial⟩, rfl, rfl⟩⟩
          rintro ⟨v9, hv_⟩
          replace hv_ := hv_.symm
          subst hv_
          refine qn2354 _ _ ?_
          obtain rfl := Option.some.inj h6
          refine EOk.done ?_
          exact ⟨⟨_, rfl⟩, [], trivial, ⟨⟨(by repeat (first | exact trivial | exact rfl | (refine And.intro ?_ ?_))), rfl, (by repeat (first | exact trivial | exact rfl | (refine And.intro ?_ ?_))), rfl, (by repeat (first | exact trivial | exact rfl | (refine And.intro ?_ ?_))), rfl, rfl, rfl, trivial⟩, ⟨rfl, trivial⟩, rfl, rfl⟩⟩
      rintro ⟨v5, hv_⟩
      replace hv_ := hv_.symm
      subst hv_
      refine qn2352 _ _ ?_
      obtain rfl := Option.some.inj h2
      refine EOk.done ?_
      exact ⟨⟨_, rfl⟩, [], trivial, ⟨⟨(by repeat (first | exact trivial | exact rfl | (refine And.intro ?_ ?_))), rfl, (by repeat (first | exact trivial | exact rfl | (refine And.intro ?_ ?_))), rfl, (by repeat (first | exact trivial | exact rfl | (refine And.intro ?_ ?_))), rfl, rfl, rfl, trivial⟩, ⟨rfl, trivial⟩, rfl, rfl⟩⟩
  rintro ⟨v1, hv_⟩
  replace hv_ := hv_.symm
  subst hv_
  refine qn2350 _ _ ?_
  obtain ⟨o28, h27, h⟩ := bindM h
  refine COk.joinR (ι := { s : (Bool × Bool) // o28 = Ctl.next s }) (fun s => [(7, .ptr 7 0), (10, .bool s.1.1), (11, .bool s.1.2)]) (fun s => [(7, .box (eIns a3) 81)]) (fun Q2363 qn2363 qx2363 qr2363 => ?_) (by intro s; rw [hn]; rfl) ?_
  · refine goc hn ?_
    refine bselM h27 (fun hb29 h27 => ?_) (fun hb29 h27 => ?_)
    · refine gor hn ?_
      refine qn2363 _ _ ?_
      obtain rfl := Option.some.inj h27
      refine EOk.done ?_
      exact ⟨⟨_, rfl⟩, [], trivial, ⟨⟨rfl, rfl, rfl, trivial⟩, ⟨rfl, trivial⟩, rfl, rfl⟩⟩
    · refine COk.seqQ fun Q2364 qn2364 qx2364 qr2364 => ?_
      refine gor hn ?_
      refine qn2364 _ _ ?_
      obtain ⟨o33, h32, h27⟩ := bindM h27
      refine COk.joinR (ι := { s : (Bool × Bool) // o33 = Ctl.next s }) (fun s => [(7, .ptr 7 0), (10, .bool s.1.1), (11, .bool s.1.2)]) (fun s => [(7, .box (eIns a3) 81)]) (fun Q2365 qn2365 qx2365 qr2365 => ?_) (by intro s; rw [hn]; rfl) ?_
      · refine goc hn ?_
        refine bselM h32 (fun hb34 h32 => ?_) (fun hb34 h32 => ?_)
        · refine god hn (by kernel_rfl) ?_
          obtain ⟨r35, hr36, h32⟩ := bindM h32
          show CallOk Try.prog _ _ _ _
          refine CallOk.as (code_numbers_1_ok N a3.a a2.args r35 hr36) (by repeat (first | exact trivial | exact rfl | (refine And.intro ?_ ?_))) trivial rfl ?_
          refine qn2365 _ _ ?_
          obtain rfl := Option.some.inj h32
          refine EOk.done ?_
          exact ⟨⟨_, rfl⟩, [], trivial, ⟨⟨rfl, rfl, rfl, trivial⟩, ⟨rfl, trivial⟩, rfl, rfl⟩⟩
        · refine COk.seqQ fun Q2366 qn2366 qx2366 qr2366 => ?_
          refine COk.seqQ fun Q2367 qn2367 qx2367 qr2367 => ?_
          refine gor hn ?_
          refine qn2367 _ _ ?_
          obtain ⟨o39, h38, h32⟩ := bindM h32
          refine COk.joinR (ι := { s : Bool // o39 = s }) (fun s => [(0, .fp (eWd a0)), (1, .int a1), (2, .fp (eMe a2)), (7, .ptr 7 0), (9, .fn 79 []), (11, .bool false), (13, .int a3.op), (35, .bool s.1)]) (fun s => [(7, .box (eIns a3) 81)]) (fun Q2368 qn2368 qx2368 qr2368 => ?_) (by intro s; rw [hn]; rfl) ?_
          · refine goc hn ?_
            refine bselM h38 (fun hb40 h38 => ?_) (fun hb40 h38 => ?_)
            · refine gok hn ?_
              refine qn2368 _ _ ?_
              obtain rfl := Option.some.inj h38
              refine EOk.done ?_
              exact ⟨⟨_, rfl⟩, [], trivial, ⟨⟨(by repeat (first | exact trivial | exact rfl | (refine And.intro ?_ ?_))), rfl, (by repeat (first | exact trivial | exact rfl | (refine And.intro ?_ ?_))), rfl, (by repeat (first | exact trivial | exact rfl | (refine And.intro ?_ ?_))), rfl, rfl, rfl, trivial⟩, ⟨rfl, trivial⟩, rfl, rfl⟩⟩
            · refine gor hn ?_
              refine qn2368 _ _ ?_
              obtain rfl := Option.some.inj h38
              refine EOk.done ?_
              exact ⟨⟨_, rfl⟩, [], trivial, ⟨⟨(by repeat (first | exact trivial | exact rfl | (refine And.intro ?_ ?_))), rfl, (by repeat (first | exact trivial | exact rfl | (refine And.intro ?_ ?_))), rfl, (by repeat (first | exact trivial | exact rfl | (refine And.intro ?_ ?_))), rfl, rfl, rfl, trivial⟩, ⟨rfl, trivial⟩, rfl, rfl⟩⟩
          rintro ⟨v37, hv_⟩
          replace hv_ := hv_.symm
          subst hv_
          refine qn2366 _ _ ?_
          obtain ⟨o44, h43, h32⟩ := bindM h32
          refine COk.joinR (ι := { s : (Bool × Bool) // o44 = Ctl.next s }) (fun s => [(7, .ptr 7 0), (10, .bool s.1.1), (11, .bool s.1.2)]) (fun s => [(7, .box (eIns a3) 81)]) (fun Q2369 qn2369 qx2369 qr2369 => ?_) (by intro s; rw [hn]; rfl) ?_
          · refine goc hn ?_
            refine bselM h43 (fun hb45 h43 => ?_) (fun hb45 h43 => ?_)
            · refine god hn (by kernel_rfl) ?_
              obtain ⟨r46, hr47, h43⟩ := bindM h43
              show CallOk Try.prog _ _ _ _
              refine CallOk.as (code_numbers_1_ok N a3.a a2.temps r46 hr47) (by repeat (first | exact trivial | exact rfl | (refine And.intro ?_ ?_))) trivial rfl ?_
              refine qn2369 _ _ ?_
              obtain rfl := Option.some.inj h43
              refine EOk.done ?_
              exact ⟨⟨_, rfl⟩, [], trivial, ⟨⟨rfl, rfl, rfl, trivial⟩, ⟨rfl, trivial⟩, rfl, rfl⟩⟩
            · refine COk.seqQ fun Q2370 qn2370 qx2370 qr2370 => ?_
              refine COk.seqQ fun Q2371 qn2371 qx2371 qr2371 => ?_
              refine gor hn ?_
              refine qn2371 _ _ ?_
              obtain ⟨o50, h49, h43⟩ := bindM h43
              refine COk.joinR (ι := { s : Bool // o50 = s }) (fun s => [(0, .fp (eWd a0)), (1, .int a1), (2, .fp (eMe a2)), (7, .ptr 7 0), (9, .fn 79 []), (11, .bool false), (13, .int a3.op), (46, .bool s.1)]) (fun s => [(7, .box (eIns a3) 81)]) (fun Q2372 qn2372 qx2372 qr2372 => ?_) (by intro s; rw [hn]; rfl) ?_
              · refine goc hn ?_
                refine bselM h49 (fun hb51 h49 => ?_) (fun hb51 h49 => ?_)
                · refine gok hn ?_
                  refine qn2372 _ _ ?_
                  obtain rfl := Option.some.inj h49
                  refine EOk.done ?_
                  exact ⟨⟨_, rfl⟩, [], trivial, ⟨⟨(by repeat (first | exact trivial | exact rfl | (refine And.intro ?_ ?_))), rfl, (by repeat (first | exact trivial | exact rfl | (refine And.intro ?_ ?_))), rfl, (by repeat (first | exact trivial | exact rfl | (refine And.intro ?_ ?_))), rfl, rfl, rfl, trivial⟩, ⟨rfl, trivial⟩, rfl, rfl⟩⟩
                · refine gor hn ?_
                  refine qn2372 _ _ ?_
                  obtain rfl := Option.some.inj h49
                  refine EOk.done ?_
                  exact ⟨⟨_, rfl⟩, [], trivial, ⟨⟨(by repeat (first | exact trivial | exact rfl | (refine And.intro ?_ ?_))), rfl, (by repeat (first | exact trivial | exact rfl | (refine And.intro ?_ ?_))), rfl, (by repeat (first | exact trivial | exact rfl | (refine And.intro ?_ ?_))), rfl, rfl, rfl, trivial⟩, ⟨rfl, trivial⟩, rfl, rfl⟩⟩
              rintro ⟨v48, hv_⟩
              replace hv_ := hv_.symm
              subst hv_
              refine qn2370 _ _ ?_
              obtain ⟨o55, h54, h43⟩ := bindM h43
              refine COk.joinR (ι := { s : (Bool × Bool) // o55 = Ctl.next s }) (fun s => [(7, .ptr 7 0), (10, .bool s.1.1), (11, .bool s.1.2)]) (fun s => [(7, .box (eIns a3) 81)]) (fun Q2373 qn2373 qx2373 qr2373 => ?_) (by intro s; rw [hn]; rfl) ?_
              · refine goc hn ?_
                refine bselM h54 (fun hb56 h54 => ?_) (fun hb56 h54 => ?_)
                · refine god hn (by kernel_rfl) ?_
                  obtain ⟨r57, hr58, h54⟩ := bindM h54
                  show CallOk Try.prog _ _ _ _
                  refine CallOk.as (class_Slots_ok N a0 a1 r57 hr58) (by repeat (first | exact trivial | exact rfl | (refine And.intro ?_ ?_))) trivial rfl ?_
                  obtain ⟨r59, hr60, h54⟩ := bindM h54
                  show CallOk Try.prog _ _ _ _
                  refine CallOk.as (code_numbers_1_ok N a3.a r57 r59 hr60) (by repeat (first | exact trivial | exact rfl | (refine And.intro ?_ ?_))) trivial rfl ?_
                  refine qn2373 _ _ ?_
                  obtain rfl := Option.some.inj h54
                  refine EOk.done ?_
                  exact ⟨⟨_, rfl⟩, [], trivial, ⟨⟨rfl, rfl, rfl, trivial⟩, ⟨rfl, trivial⟩, rfl, rfl⟩⟩
                · refine COk.seqQ fun Q2374 qn2374 qx2374 qr2374 => ?_
                  refine gor hn ?_
                  refine qn2374 _ _ ?_
                  obtain ⟨o64, h63, h54⟩ := bindM h54
                  refine COk.joinR (ι := { s : (Bool × Bool) // o64 = Ctl.next s }) (fun s => [(7, .ptr 7 0), (10, .bool s.1.1), (11, .bool s.1.2)]) (fun s => [(7, .box (eIns a3) 81)]) (fun Q2375 qn2375 qx2375 qr2375 => ?_) (by intro s; rw [hn]; rfl) ?_
                  · refine goc hn ?_
                    refine bselM h63 (fun hb65 h63 => ?_) (fun hb65 h63 => ?_)
                    · obtain ⟨o68, h67, h63⟩ := bindM h63
                      refine COk.joinR (ι := { s : Bool // o68 = s }) (fun s => [(7, .ptr 7 0), (10, .bool s.1), (11, .bool false)]) (fun s => [(7, .box (eIns a3) 81)]) (fun Q2376 qn2376 qx2376 qr2376 => ?_) (by intro s; rw [hn]; rfl) ?_
                      · refine gor hn ?_
                        refine bselM h67 (fun hb69 h67 => ?_) (fun hb69 h67 => ?_)
                        · refine bselT hb69 ?_
                          refine bselT hb69 ?_
                          refine bselT hb69 ?_
                          refine qn2376 _ _ ?_
                          obtain rfl := Option.some.inj h67
                          refine EOk.done ?_
                          exact ⟨⟨_, rfl⟩, [], trivial, ⟨⟨rfl, rfl, rfl, trivial⟩, ⟨rfl, trivial⟩, rfl, rfl⟩⟩
                        · refine bselF hb69 ?_
                          refine bselF hb69 ?_
                          refine bselF hb69 ?_
                          refine qn2376 _ _ ?_
                          obtain rfl := Option.some.inj h67
                          refine EOk.done ?_
                          exact ⟨⟨_, rfl⟩, [], trivial, ⟨⟨rfl, rfl, rfl, trivial⟩, ⟨rfl, trivial⟩, rfl, rfl⟩⟩
                      rintro ⟨v66, hv_⟩
                      replace hv_ := hv_.symm
                      subst hv_
                      refine qn2375 _ _ ?_
                      obtain rfl := Option.some.inj h63
                      refine EOk.done ?_
                      exact ⟨⟨_, rfl⟩, [], trivial, ⟨⟨rfl, rfl, rfl, trivial⟩, ⟨rfl, trivial⟩, rfl, rfl⟩⟩
                    · refine COk.seqQ fun Q2377 qn2377 qx2377 qr2377 => ?_
                      refine gor hn ?_
                      refine qn2377 _ _ ?_
                      obtain ⟨o73, h72, h63⟩ := bindM h63
                      refine COk.joinR (ι := { s : (Bool × Bool) // o73 = Ctl.next s }) (fun s => [(7, .ptr 7 0), (10, .bool s.1.1), (11, .bool s.1.2)]) (fun s => [(7, .box (eIns a3) 81)]) (fun Q2378 qn2378 qx2378 qr2378 => ?_) (by intro s; rw [hn]; rfl) ?_
                      · refine goc hn ?_
                        refine bselM h72 (fun hb74 h72 => ?_) (fun hb74 h72 => ?_)
                        · obtain ⟨o77, h76, h72⟩ := bindM h72
                          refine COk.joinR (ι := { s : Bool // o77 = s }) (fun s => [(7, .ptr 7 0), (10, .bool s.1), (11, .bool false)]) (fun s => [(7, .box (eIns a3) 81)]) (fun Q2379 qn2379 qx2379 qr2379 => ?_) (by intro s; rw [hn]; rfl) ?_
                          · refine COk.sub (ts2 := [(0, .fp (eWd a0)), (7, .ptr 7 0), (11, .bool false)]) (os2 := [(7, .box (eIns a3) 81)]) [] ⟨⟨(by repeat (first | exact trivial | exact rfl | (refine And.intro ?_ ?_))), rfl, rfl, trivial⟩, ⟨rfl, trivial⟩, rfl, rfl⟩ (by rw [hn]; rfl) ?_
                            refine god hn (by kernel_rfl) ?_
                            refine bselM h76 (fun hb78 h76 => ?_) (fun hb78 h76 => ?_)
                            · refine bselT hb78 ?_
                              refine bselT hb78 ?_
                              refine bselT hb78 ?_
                              refine bselT hb78 ?_
                              refine bselT hb78 ?_
                              refine qn2379 _ _ ?_
                              obtain rfl := Option.some.inj h76
                              refine EOk.done ?_
                              exact ⟨⟨_, rfl⟩, [], trivial, ⟨⟨rfl, rfl, rfl, trivial⟩, ⟨rfl, trivial⟩, rfl, rfl⟩⟩
                            · refine bselF hb78 ?_
                              refine bselF hb78 ?_
                              refine bselF hb78 ?_
                              refine bselM h76 (fun hb79 h76 => ?_) (fun hb79 h76 => ?_)
                              · refine bselT hb79 ?_
                                refine bselT hb79 ?_
                                refine bselT hb79 ?_
                                refine bselT hb79 ?_
                                refine bselT hb79 ?_
                                refine bselT hb79 ?_
                                refine lenM (fun hl80 => ?_)
                                refine bselT hb79 ?_
                                refine bselF hb78 ?_
                                refine bselT hb79 ?_
                                refine bselF hb78 ?_
                                refine qn2379 _ _ ?_
                                obtain rfl := Option.some.inj h76
                                refine EOk.done ?_
                                exact ⟨⟨_, rfl⟩, [], trivial, ⟨⟨rfl, rfl, rfl, trivial⟩, ⟨rfl, trivial⟩, rfl, rfl⟩⟩
                              · refine bselF hb79 ?_
                                refine bselF hb79 ?_
                                refine bselF hb79 ?_
                                refine bselF hb79 ?_
                                refine bselF hb79 ?_
                                refine bselF hb79 ?_
                                refine bselF hb79 ?_
                                refine bselF hb78 ?_
                                refine bselF hb79 ?_
                                refine bselF hb78 ?_
                                refine qn2379 _ _ ?_
                                obtain rfl := Option.some.inj h76
                                refine EOk.done ?_
                                exact ⟨⟨_, rfl⟩, [], trivial, ⟨⟨rfl, rfl, rfl, trivial⟩, ⟨rfl, trivial⟩, rfl, rfl⟩⟩
                          rintro ⟨v75, hv_⟩
                          replace hv_ := hv_.symm
                          subst hv_
                          refine qn2378 _ _ ?_
                          obtain rfl := Option.some.inj h72
                          refine EOk.done ?_
                          exact ⟨⟨_, rfl⟩, [], trivial, ⟨⟨rfl, rfl, rfl, trivial⟩, ⟨rfl, trivial⟩, rfl, rfl⟩⟩
                        · refine COk.seqQ fun Q2380 qn2380 qx2380 qr2380 => ?_
                          refine gor hn ?_
                          refine qn2380 _ _ ?_
                          obtain ⟨o84, h83, h72⟩ := bindM h72
                          refine COk.joinR (ι := { s : (Bool × Bool) // o84 = Ctl.next s }) (fun s => [(7, .ptr 7 0), (10, .bool s.1.1), (11, .bool s.1.2)]) (fun s => [(7, .box (eIns a3) 81)]) (fun Q2381 qn2381 qx2381 qr2381 => ?_) (by intro s; rw [hn]; rfl) ?_
                          · refine goc hn ?_
                            refine bselM h83 (fun hb85 h83 => ?_) (fun hb85 h83 => ?_)
                            · refine gor hn ?_
                              obtain ⟨r86, hr87, h83⟩ := bindM h83
                              show CallOk Try.prog _ _ _ _
                              refine CallOk.as (code_numbers_1_ok N a3.a (5 : Int) r86 hr87) (by repeat (first | exact trivial | exact rfl | (refine And.intro ?_ ?_))) trivial rfl ?_
                              refine qn2381 _ _ ?_
                              obtain rfl := Option.some.inj h83
                              refine EOk.done ?_
                              exact ⟨⟨_, rfl⟩, [], trivial, ⟨⟨rfl, rfl, rfl, trivial⟩, ⟨rfl, trivial⟩, rfl, rfl⟩⟩
                            · refine COk.seqQ fun Q2382 qn2382 qx2382 qr2382 => ?_
                              refine COk.seqQ fun Q2383 qn2383 qx2383 qr2383 => ?_
                              refine gor hn ?_
                              refine qn2383 _ _ ?_
                              obtain ⟨o90, h89, h83⟩ := bindM h83
                              refine COk.joinR (ι := { s : Bool // o90 = s }) (fun s => [(2, .fp (eMe a2)), (7, .ptr 7 0), (9, .fn 79 []), (11, .bool false), (94, .bool s.1)]) (fun s => [(7, .box (eIns a3) 81)]) (fun Q2384 qn2384 qx2384 qr2384 => ?_) (by intro s; rw [hn]; rfl) ?_
                              · refine goc hn ?_
                                refine bselM h89 (fun hb91 h89 => ?_) (fun hb91 h89 => ?_)
                                · refine gok hn ?_
                                  refine qn2384 _ _ ?_
                                  obtain rfl := Option.some.inj h89
                                  refine EOk.done ?_
                                  exact ⟨⟨_, rfl⟩, [], trivial, ⟨⟨(by repeat (first | exact trivial | exact rfl | (refine And.intro ?_ ?_))), rfl, (by repeat (first | exact trivial | exact rfl | (refine And.intro ?_ ?_))), rfl, rfl, trivial⟩, ⟨rfl, trivial⟩, rfl, rfl⟩⟩
                                · refine gor hn ?_
                                  refine qn2384 _ _ ?_
                                  obtain rfl := Option.some.inj h89
                                  refine EOk.done ?_
                                  exact ⟨⟨_, rfl⟩, [], trivial, ⟨⟨(by repeat (first | exact trivial | exact rfl | (refine And.intro ?_ ?_))), rfl, (by repeat (first | exact trivial | exact rfl | (refine And.intro ?_ ?_))), rfl, rfl, trivial⟩, ⟨rfl, trivial⟩, rfl, rfl⟩⟩
                              rintro ⟨v88, hv_⟩
                              replace hv_ := hv_.symm
                              subst hv_
                              refine qn2382 _ _ ?_
                              refine goc hn ?_
                              refine bselM h83 (fun hb92 h83 => ?_) (fun hb92 h83 => ?_)
                              · refine god hn (by kernel_rfl) ?_
                                refine lenM (fun hl93 => ?_)
                                obtain ⟨r94, hr95, h83⟩ := bindM h83
                                show CallOk Try.prog _ _ _ _
                                refine CallOk.as (code_numbers_1_ok N a3.a (a2.code.length : Int) r94 hr95) (by repeat (first | exact trivial | exact rfl | (refine And.intro ?_ ?_))) trivial rfl ?_
                                refine qn2381 _ _ ?_
                                obtain rfl := Option.some.inj h83
                                refine EOk.done ?_
                                exact ⟨⟨_, rfl⟩, [], trivial, ⟨⟨rfl, rfl, rfl, trivial⟩, ⟨rfl, trivial⟩, rfl, rfl⟩⟩
                              · refine COk.seqQ fun Q2385 qn2385 qx2385 qr2385 => ?_
                                refine gor hn ?_
                                refine qn2385 _ _ ?_
                                refine got hn ?_
                                refine qr2381 _ _ ?_
                                refine qr2378 _ _ ?_
                                refine qr2375 _ _ ?_
                                refine qr2373 _ _ ?_
                                refine qr2369 _ _ ?_
                                refine qr2365 _ _ ?_
                                refine qr2363 _ _ ?_
                                refine qr2349 _ _ ?_
                                refine qr1206 _ _ ?_
                                obtain rfl := Option.some.inj h83
                                obtain rfl := Option.some.inj h72
                                obtain rfl := Option.some.inj h63
                                obtain rfl := Option.some.inj h54
                                obtain rfl := Option.some.inj h43
                                obtain rfl := Option.some.inj h32
                                obtain rfl := Option.some.inj h27
                                obtain rfl := Option.some.inj h
                                exact ⟨[], _, rfl, (by repeat (first | exact trivial | exact rfl | (refine And.intro ?_ ?_))), trivial, rfl, rfl, rfl, rfl, rfl⟩
                          rintro ⟨⟨v81, v82⟩, rfl⟩
                          refine qn2378 _ _ ?_
                          obtain rfl := Option.some.inj h72
                          refine EOk.done ?_
                          exact ⟨⟨_, rfl⟩, [], trivial, ⟨⟨rfl, rfl, rfl, trivial⟩, ⟨rfl, trivial⟩, rfl, rfl⟩⟩
                      rintro ⟨⟨v70, v71⟩, rfl⟩
                      refine qn2375 _ _ ?_
                      obtain rfl := Option.some.inj h63
                      refine EOk.done ?_
                      exact ⟨⟨_, rfl⟩, [], trivial, ⟨⟨rfl, rfl, rfl, trivial⟩, ⟨rfl, trivial⟩, rfl, rfl⟩⟩
                  rintro ⟨⟨v61, v62⟩, rfl⟩
                  refine qn2373 _ _ ?_
                  obtain rfl := Option.some.inj h54
                  refine EOk.done ?_
                  exact ⟨⟨_, rfl⟩, [], trivial, ⟨⟨rfl, rfl, rfl, trivial⟩, ⟨rfl, trivial⟩, rfl, rfl⟩⟩
              rintro ⟨⟨v52, v53⟩, rfl⟩
              refine qn2369 _ _ ?_
              obtain rfl := Option.some.inj h43
              refine EOk.done ?_
              exact ⟨⟨_, rfl⟩, [], trivial, ⟨⟨rfl, rfl, rfl, trivial⟩, ⟨rfl, trivial⟩, rfl, rfl⟩⟩
          rintro ⟨⟨v41, v42⟩, rfl⟩
          refine qn2365 _ _ ?_
          obtain rfl := Option.some.inj h32
          refine EOk.done ?_
          exact ⟨⟨_, rfl⟩, [], trivial, ⟨⟨rfl, rfl, rfl, trivial⟩, ⟨rfl, trivial⟩, rfl, rfl⟩⟩
      rintro ⟨⟨v30, v31⟩, rfl⟩
      refine qn2363 _ _ ?_
      obtain rfl := Option.some.inj h27
      refine EOk.done ?_
      exact ⟨⟨_, rfl⟩, [], trivial, ⟨⟨rfl, rfl, rfl, trivial⟩, ⟨rfl, trivial⟩, rfl, rfl⟩⟩
  rintro ⟨⟨v25, v26⟩, rfl⟩
  refine qn2349 _ _ ?_
  refine qn1206 _ _ ?_
  refine COk.seqQ fun Q2386 qn2386 qx2386 qr2386 => ?_
  refine COk.blkQ fun Q2398 qn2398 qe2398 qx2398 qr2398 => ?_
  refine COk.seqQ fun Q2399 qn2399 qx2399 qr2399 => ?_
  refine gor hn ?_
  refine qn2399 _ _ ?_
  refine goc hn ?_
  refine bselM h (fun hb96 h => ?_) (fun hb96 h => ?_)
  · refine COk.seqQ fun Q2400 qn2400 qx2400 qr2400 => ?_
    refine gor hn ?_
    refine qn2400 _ _ ?_
    refine got hn ?_
    refine qr2398 _ _ ?_
    refine qr2386 _ _ ?_
    obtain rfl := Option.some.inj h
    exact ⟨[], _, rfl, (by repeat (first | exact trivial | exact rfl | (refine And.intro ?_ ?_))), trivial, rfl, rfl, rfl, rfl, rfl⟩
  · refine COk.seqQ fun Q2401 qn2401 qx2401 qr2401 => ?_
    obtain ⟨o99, h98, h⟩ := bindM h
    refine COk.joinR (ι := { s : Bool // o99 = s }) (fun s => [(109, .bool s.1)]) (fun s => []) (fun Q2402 qn2402 qx2402 qr2402 => ?_) (by intro s; rw [hn]; rfl) ?_
    · refine gor hn ?_
      refine bselM h98 (fun hb100 h98 => ?_) (fun hb100 h98 => ?_)
      · refine bselT hb100 ?_
        refine bselT hb100 ?_
        obtain ⟨r101, hr102, h98⟩ := bindM h98
        show CallOk Try.prog _ _ _ _
        refine CallOk.as (class_Name_ok N a3.name r101 hr102) (by repeat (first | exact trivial | exact rfl | (refine And.intro ?_ ?_))) trivial rfl ?_
        refine bselT hb100 ?_
        refine bselT hb100 ?_
        refine bselM h98 (fun hb103 h98 => ?_) (fun hb103 h98 => ?_)
        · refine bselT hb103 ?_
          refine bselT hb103 ?_
          refine bselT hb103 ?_
          refine bselT hb103 ?_
          refine qn2402 _ _ ?_
          obtain rfl := Option.some.inj h98
          refine EOk.done ?_
          exact ⟨⟨_, rfl⟩, [], trivial, ⟨⟨rfl, trivial⟩, trivial, rfl, rfl⟩⟩
        · refine bselF hb103 ?_
          refine bselF hb103 ?_
          refine bselM h98 (fun hb104 h98 => ?_) (fun hb104 h98 => ?_)
          · refine bselT hb104 ?_
            refine bselT hb104 ?_
            refine bselF hb103 ?_
            refine bselT hb104 ?_
            refine bselF hb103 ?_
            refine bselM h98 (fun hb105 h98 => ?_) (fun hb105 h98 => ?_)
            · refine bselT hb105 ?_
              refine bselT hb105 ?_
              refine bselT hb105 ?_
              refine qn2402 _ _ ?_
              obtain rfl := Option.some.inj h98
              refine EOk.done ?_
              exact ⟨⟨_, rfl⟩, [], trivial, ⟨⟨rfl, trivial⟩, trivial, rfl, rfl⟩⟩
            · refine bselF hb105 ?_
              refine bselF hb105 ?_
              refine bselF hb105 ?_
              refine bselM h98 (fun hb106 h98 => ?_) (fun hb106 h98 => ?_)
              · refine bselT hb106 ?_
                refine bselT hb106 ?_
                refine bselT hb106 ?_
                refine qn2402 _ _ ?_
                obtain rfl := Option.some.inj h98
                refine EOk.done ?_
                exact ⟨⟨_, rfl⟩, [], trivial, ⟨⟨rfl, trivial⟩, trivial, rfl, rfl⟩⟩
              · refine bselF hb106 ?_
                refine bselF hb106 ?_
                refine bselF hb106 ?_
                refine qn2402 _ _ ?_
                obtain rfl := Option.some.inj h98
                refine EOk.done ?_
                exact ⟨⟨_, rfl⟩, [], trivial, ⟨⟨rfl, trivial⟩, trivial, rfl, rfl⟩⟩
          · refine bselF hb104 ?_
            refine bselF hb104 ?_
            refine bselF hb103 ?_
            refine bselF hb104 ?_
            refine bselF hb103 ?_
            refine bselM h98 (fun hb107 h98 => ?_) (fun hb107 h98 => ?_)
            · refine bselT hb107 ?_
              refine bselT hb107 ?_
              refine bselT hb107 ?_
              refine qn2402 _ _ ?_
              obtain rfl := Option.some.inj h98
              refine EOk.done ?_
              exact ⟨⟨_, rfl⟩, [], trivial, ⟨⟨rfl, trivial⟩, trivial, rfl, rfl⟩⟩
            · refine bselF hb107 ?_
              refine bselF hb107 ?_
              refine bselF hb107 ?_
              refine qn2402 _ _ ?_
              obtain rfl := Option.some.inj h98
              refine EOk.done ?_
              exact ⟨⟨_, rfl⟩, [], trivial, ⟨⟨rfl, trivial⟩, trivial, rfl, rfl⟩⟩
      · refine bselF hb100 ?_
        refine bselF hb100 ?_
        refine bselF hb100 ?_
        refine bselF hb100 ?_
        refine bselM h98 (fun hb108 h98 => ?_) (fun hb108 h98 => ?_)
        · refine bselT hb108 ?_
          refine bselT hb108 ?_
          refine bselT hb108 ?_
          refine bselM h98 (fun hb109 h98 => ?_) (fun hb109 h98 => ?_)
          · refine bselT hb109 ?_
            refine bselT hb109 ?_
            refine bselT hb109 ?_
            refine qn2402 _ _ ?_
            obtain rfl := Option.some.inj h98
            refine EOk.done ?_
            exact ⟨⟨_, rfl⟩, [], trivial, ⟨⟨rfl, trivial⟩, trivial, rfl, rfl⟩⟩
          · refine bselF hb109 ?_
            refine bselF hb109 ?_
            refine bselF hb109 ?_
            refine bselM h98 (fun hb110 h98 => ?_) (fun hb110 h98 => ?_)
            · refine bselT hb110 ?_
              refine bselT hb110 ?_
              refine bselT hb110 ?_
              refine qn2402 _ _ ?_
              obtain rfl := Option.some.inj h98
              refine EOk.done ?_
              exact ⟨⟨_, rfl⟩, [], trivial, ⟨⟨rfl, trivial⟩, trivial, rfl, rfl⟩⟩
            · refine bselF hb110 ?_
              refine bselF hb110 ?_
              refine bselF hb110 ?_
              refine qn2402 _ _ ?_
              obtain rfl := Option.some.inj h98
              refine EOk.done ?_
              exact ⟨⟨_, rfl⟩, [], trivial, ⟨⟨rfl, trivial⟩, trivial, rfl, rfl⟩⟩
        · refine bselF hb108 ?_
          refine bselF hb108 ?_
          refine bselF hb108 ?_
          refine bselM h98 (fun hb111 h98 => ?_) (fun hb111 h98 => ?_)
          · refine bselT hb111 ?_
            refine bselT hb111 ?_
            refine bselT hb111 ?_
            refine qn2402 _ _ ?_
            obtain rfl := Option.some.inj h98
            refine EOk.done ?_
            exact ⟨⟨_, rfl⟩, [], trivial, ⟨⟨rfl, trivial⟩, trivial, rfl, rfl⟩⟩
          · refine bselF hb111 ?_
            refine bselF hb111 ?_
            refine bselF hb111 ?_
            refine qn2402 _ _ ?_
            obtain rfl := Option.some.inj h98
            refine EOk.done ?_
            exact ⟨⟨_, rfl⟩, [], trivial, ⟨⟨rfl, trivial⟩, trivial, rfl, rfl⟩⟩
    rintro ⟨v97, hv_⟩
    replace hv_ := hv_.symm
    subst hv_
    refine qn2401 _ _ ?_
    refine goc hn ?_
    refine bselM h (fun hb112 h => ?_) (fun hb112 h => ?_)
    · refine COk.seqQ fun Q2403 qn2403 qx2403 qr2403 => ?_
      refine gor hn ?_
      refine qn2403 _ _ ?_
      refine got hn ?_
      refine qr2398 _ _ ?_
      refine qr2386 _ _ ?_
      obtain rfl := Option.some.inj h
      exact ⟨[], _, rfl, (by repeat (first | exact trivial | exact rfl | (refine And.intro ?_ ?_))), trivial, rfl, rfl, rfl, rfl, rfl⟩
    · refine gok hn ?_
      refine qn2398 _ _ ?_
      refine qn2386 _ _ ?_
      refine COk.seqQ fun Q2404 qn2404 qx2404 qr2404 => ?_
      refine gor hn ?_
      refine qn2404 _ _ ?_
      refine got hn ?_
      obtain rfl := Option.some.inj h
      exact ⟨[], _, rfl, (by repeat (first | exact trivial | exact rfl | (refine And.intro ?_ ?_))), trivial, rfl, rfl, rfl, rfl, rfl⟩

/- code.effect -/
set_option maxRecDepth 100000 in
set_option maxHeartbeats 1000000 in
theorem code_effect_ok (N : Nat) (a0 : Ins) (r : (Int × Int)) (h : code_effect N a0 = some r) : Spec Try.prog 75 [] [.agg (eIns a0)] (.tup [.int r.1, .int r.2]) [] [] := by
  refine Spec.of tabOk Try.func75 rfl Try.ntmps75 (by kernel_rfl) rfl rfl rfl fun Γ hn => ?_
  unfold code_effect at h
  refine COk.seqQ fun Q77 qn77 qx77 qr77 => ?_
  refine gor hn ?_
  refine qn77 _ _ ?_
  refine COk.seqQ fun Q78 qn78 qx78 qr78 => ?_
  refine COk.seqQ fun Q79 qn79 qx79 qr79 => ?_
  refine gor hn ?_
  refine qn79 _ _ ?_
  refine COk.blkQ fun Q135 qn135 qe135 qx135 qr135 => ?_
  refine COk.seqQ fun Q136 qn136 qx136 qr136 => ?_
  refine COk.seqQ fun Q137 qn137 qx137 qr137 => ?_
  refine gor hn ?_
  refine qn137 _ _ ?_
  obtain ⟨o3, h2, h⟩ := bindM h
  refine COk.joinR (ι := { s : Bool // o3 = s }) (fun s => [(1, .ptr 1 0), (5, .int a0.op), (6, .bool s.1)]) (fun s => [(1, .box (eIns a0) 81)]) (fun Q138 qn138 qx138 qr138 => ?_) (by intro s; rw [hn]; rfl) ?_
  · refine goc hn ?_
    refine bselM h2 (fun hb4 h2 => ?_) (fun hb4 h2 => ?_)
    · refine gok hn ?_
      refine qn138 _ _ ?_
      obtain rfl := Option.some.inj h2
      refine EOk.done ?_
      exact ⟨⟨_, rfl⟩, [], trivial, ⟨⟨rfl, rfl, rfl, trivial⟩, ⟨rfl, trivial⟩, rfl, rfl⟩⟩
    · refine COk.seqQ fun Q139 qn139 qx139 qr139 => ?_
      refine gor hn ?_
      refine qn139 _ _ ?_
      obtain ⟨o7, h6, h2⟩ := bindM h2
      refine COk.joinR (ι := { s : Bool // o7 = s }) (fun s => [(1, .ptr 1 0), (5, .int a0.op), (6, .bool s.1)]) (fun s => [(1, .box (eIns a0) 81)]) (fun Q140 qn140 qx140 qr140 => ?_) (by intro s; rw [hn]; rfl) ?_
      · refine goc hn ?_
        refine bselM h6 (fun hb8 h6 => ?_) (fun hb8 h6 => ?_)
        · refine gok hn ?_
          refine qn140 _ _ ?_
          obtain rfl := Option.some.inj h6
          refine EOk.done ?_
          exact ⟨⟨_, rfl⟩, [], trivial, ⟨⟨rfl, rfl, rfl, trivial⟩, ⟨rfl, trivial⟩, rfl, rfl⟩⟩
        · refine COk.seqQ fun Q141 qn141 qx141 qr141 => ?_
          refine gor hn ?_
          refine qn141 _ _ ?_
          obtain ⟨o11, h10, h6⟩ := bindM h6
          refine COk.joinR (ι := { s : Bool // o11 = s }) (fun s => [(1, .ptr 1 0), (5, .int a0.op), (6, .bool s.1)]) (fun s => [(1, .box (eIns a0) 81)]) (fun Q142 qn142 qx142 qr142 => ?_) (by intro s; rw [hn]; rfl) ?_
          · refine goc hn ?_
            refine bselM h10 (fun hb12 h10 => ?_) (fun hb12 h10 => ?_)
            · refine gok hn ?_
              refine qn142 _ _ ?_
              obtain rfl := Option.some.inj h10
              refine EOk.done ?_
              exact ⟨⟨_, rfl⟩, [], trivial, ⟨⟨rfl, rfl, rfl, trivial⟩, ⟨rfl, trivial⟩, rfl, rfl⟩⟩
            · refine COk.seqQ fun Q143 qn143 qx143 qr143 => ?_
              refine gor hn ?_
              refine qn143 _ _ ?_
              obtain ⟨o15, h14, h10⟩ := bindM h10
              refine COk.joinR (ι := { s : Bool // o15 = s }) (fun s => [(1, .ptr 1 0), (5, .int a0.op), (6, .bool s.1)]) (fun s => [(1, .box (eIns a0) 81)]) (fun Q144 qn144 qx144 qr144 => ?_) (by intro s; rw [hn]; rfl) ?_
              · refine goc hn ?_
                refine bselM h14 (fun hb16 h14 => ?_) (fun hb16 h14 => ?_)
                · refine gok hn ?_
                  refine qn144 _ _ ?_
                  obtain rfl := Option.some.inj h14
                  refine EOk.done ?_
                  exact ⟨⟨_, rfl⟩, [], trivial, ⟨⟨rfl, rfl, rfl, trivial⟩, ⟨rfl, trivial⟩, rfl, rfl⟩⟩
                · refine gor hn ?_
                  refine qn144 _ _ ?_
                  obtain rfl := Option.some.inj h14
                  refine EOk.done ?_
                  exact ⟨⟨_, rfl⟩, [], trivial, ⟨⟨rfl, rfl, rfl, trivial⟩, ⟨rfl, trivial⟩, rfl, rfl⟩⟩
              rintro ⟨v13, hv_⟩
              replace hv_ := hv_.symm
              subst hv_
              refine qn142 _ _ ?_
              obtain rfl := Option.some.inj h10
              refine EOk.done ?_
              exact ⟨⟨_, rfl⟩, [], trivial, ⟨⟨rfl, rfl, rfl, trivial⟩, ⟨rfl, trivial⟩, rfl, rfl⟩⟩
          rintro ⟨v9, hv_⟩
          replace hv_ := hv_.symm
          subst hv_
          refine qn140 _ _ ?_
          obtain rfl := Option.some.inj h6
          refine EOk.done ?_
          exact ⟨⟨_, rfl⟩, [], trivial, ⟨⟨rfl, rfl, rfl, trivial⟩, ⟨rfl, trivial⟩, rfl, rfl⟩⟩
      rintro ⟨v5, hv_⟩
      replace hv_ := hv_.symm
      subst hv_
      refine qn138 _ _ ?_
      obtain rfl := Option.some.inj h2
      refine EOk.done ?_
      exact ⟨⟨_, rfl⟩, [], trivial, ⟨⟨rfl, rfl, rfl, trivial⟩, ⟨rfl, trivial⟩, rfl, rfl⟩⟩
  rintro ⟨v1, hv_⟩
  replace hv_ := hv_.symm
  subst hv_
  refine qn136 _ _ ?_
  refine goc hn ?_
  refine bselM h (fun hb17 h => ?_) (fun hb17 h => ?_)
  · refine COk.seqQ fun Q145 qn145 qx145 qr145 => ?_
    refine gor hn ?_
    refine qn145 _ _ ?_
    refine got hn ?_
    refine qr135 _ _ ?_
    refine qr78 _ _ ?_
    obtain rfl := Option.some.inj h
    exact ⟨[], _, rfl, (by repeat (first | exact trivial | exact rfl | (refine And.intro ?_ ?_))), trivial, rfl, rfl, rfl, rfl, rfl⟩
  · refine COk.seqQ fun Q146 qn146 qx146 qr146 => ?_
    refine gor hn ?_
    refine qn146 _ _ ?_
    refine goc hn ?_
    refine bselM h (fun hb18 h => ?_) (fun hb18 h => ?_)
    · refine COk.seqQ fun Q147 qn147 qx147 qr147 => ?_
      refine gor hn ?_
      refine qn147 _ _ ?_
      refine got hn ?_
      refine qr135 _ _ ?_
      refine qr78 _ _ ?_
      obtain rfl := Option.some.inj h
      exact ⟨[], _, rfl, (by repeat (first | exact trivial | exact rfl | (refine And.intro ?_ ?_))), trivial, rfl, rfl, rfl, rfl, rfl⟩
    · refine COk.seqQ fun Q148 qn148 qx148 qr148 => ?_
      refine gor hn ?_
      refine qn148 _ _ ?_
      refine goc hn ?_
      refine bselM h (fun hb19 h => ?_) (fun hb19 h => ?_)
      · refine COk.seqQ fun Q149 qn149 qx149 qr149 => ?_
        refine gor hn ?_
        refine Or.inr ?_
        refine qn149 _ _ ?_
        refine got hn ?_
        refine qr135 _ _ ?_
        refine qr78 _ _ ?_
        obtain rfl := Option.some.inj h
        exact ⟨[], _, rfl, (by repeat (first | exact trivial | exact rfl | (refine And.intro ?_ ?_))), trivial, rfl, rfl, rfl, rfl, rfl⟩
      · refine COk.seqQ fun Q150 qn150 qx150 qr150 => ?_
        refine gor hn ?_
        refine qn150 _ _ ?_
        refine goc hn ?_
        refine bselM h (fun hb20 h => ?_) (fun hb20 h => ?_)
        · refine COk.seqQ fun Q151 qn151 qx151 qr151 => ?_
          refine gor hn ?_
          refine qn151 _ _ ?_
          refine got hn ?_
          refine qr135 _ _ ?_
          refine qr78 _ _ ?_
          obtain rfl := Option.some.inj h
          exact ⟨[], _, rfl, (by repeat (first | exact trivial | exact rfl | (refine And.intro ?_ ?_))), trivial, rfl, rfl, rfl, rfl, rfl⟩
        · refine gok hn ?_
          refine qn135 _ _ ?_
          refine qn78 _ _ ?_
          refine COk.seqQ fun Q152 qn152 qx152 qr152 => ?_
          refine gor hn ?_
          refine qn152 _ _ ?_
          refine got hn ?_
          obtain rfl := Option.some.inj h
          exact ⟨[], _, rfl, (by repeat (first | exact trivial | exact rfl | (refine And.intro ?_ ?_))), trivial, rfl, rfl, rfl, rfl, rfl⟩

/- code.Heights -/
set_option maxRecDepth 100000 in
set_option maxHeartbeats 1000000 in
theorem code_Heights_ok (N : Nat) (a0 : Me) (r : ((List Int) × TFault)) (h : code_Heights N a0 = some r) : Spec Try.prog 50 [] [.agg (eMe a0)] (.tup [.own 0, .agg (eTFault r.2)]) [(0, .row 1 (List.map eInt r.1) 3)] [0] := by
  refine Spec.of tabOk Try.func50 rfl Try.ntmps50 (by kernel_rfl) rfl rfl rfl fun Γ hn => ?_
  unfold code_Heights at h
  refine COk.seqQ fun Q352 qn352 qx352 qr352 => ?_
  refine gor hn ?_
  refine qn352 _ _ ?_
  refine COk.seqQ fun Q353 qn353 qx353 qr353 => ?_
  refine gor hn ?_
  refine lenM (fun hl1 => ?_)
  obtain ⟨hg2, h⟩ := guardM h
  refine mkM (enc := eInt) (x := (0 : Int)) hg2 (by repeat (first | exact trivial | exact rfl | (refine And.intro ?_ ?_))) ?_
  refine qn353 _ _ ?_
  refine COk.seqQ fun Q354 qn354 qx354 qr354 => ?_
  refine COk.seqQ fun Q355 qn355 qx355 qr355 => ?_
  refine gor hn ?_
  refine lenM (fun hl3 => ?_)
  refine qn355 _ _ ?_
  refine COk.rng 17 rfl (fun hrn => ?_)
  obtain ⟨o8, h9, h⟩ := bindM h
  refine COk.joinR (ι := { s : (List Int) // o8 = s }) (fun s => [(1, .ptr 1 0), (3, .ptr 3 0), (4, .own 15)]) (fun s => [(1, .box (eMe a0) 74), (3, .box [.int (0 : Int), .int (0 : Int)] 85), (15, .row 1 (List.map eInt s.1) 3)]) (fun Q377 qn377 qx377 qr377 => ?_) (by intro s; rw [hn]; rfl) ?_
  · refine COk.blkQ fun Q378 qn378 qe378 qx378 qr378 => ?_
    refine COk.loopQ (ι := { q : (Nat × Nat × (List Int)) // q.1 = (((List.replicate (a0.code.length : Int).toNat (0 : Int)).length : Int) - (q.2.1 : Int)).toNat ∧ code_Heights_l1 N q.1 q.2.1 q.2.2 = some o8 }) (fun q => [(1, .ptr 1 0), (3, .ptr 3 0), (4, .own 15), (17, .int ((List.replicate (a0.code.length : Int).toNat (0 : Int)).length : Int)), (18, .int (q.1.2.1 : Int))]) (fun q => [(1, .box (eMe a0) 74), (3, .box [.int (0 : Int), .int (0 : Int)] 85), (15, .row 1 (List.map eInt q.1.2.2) 3)]) (fun q => q.1.1) ⟨((((List.replicate (a0.code.length : Int).toNat (0 : Int)).length : Int) - ((0 : Nat) : Int)).toNat, 0, (List.replicate (a0.code.length : Int).toNat (0 : Int))), rfl, h9⟩ [] ⟨⟨rfl, rfl, rfl, rfl, rfl, trivial⟩, ⟨rfl, rfl, rfl, trivial⟩, rfl, rfl⟩ (by intro q; rw [hn]; rfl) ?_
    rintro ⟨⟨n_, k4, v5⟩, hd11, h9⟩ Q379 qn379 qx379 qr379
    replace hd11 : n_ = (((List.replicate (a0.code.length : Int).toNat (0 : Int)).length : Int) - (k4 : Int)).toNat := hd11
    rcases n_ with _ | n12
    · have hlt15 := upNil hd11
      replace h9 := (code_Heights_l1.eq_1 _ _ _).symm.trans h9
      refine COk.seqQ fun Q380 qn380 qx380 qr380 => ?_
      refine gor hn ?_
      refine qn380 _ _ ?_
      refine COk.seqQ fun Q381 qn381 qx381 qr381 => ?_
      refine goc hn ?_
      refine bselF hlt15 ?_
      refine goe hn ?_
      refine qx381 _ _ _ ?_
      refine qx379 _ _ _ ?_
      refine qe378 _ _ ?_
      refine qn377 _ _ ?_
      obtain rfl := Option.some.inj h9
      refine EOk.done ?_
      exact ⟨⟨_, rfl⟩, [], trivial, ⟨⟨rfl, rfl, rfl, trivial⟩, ⟨rfl, rfl, rfl, trivial⟩, rfl, rfl⟩⟩
    · obtain ⟨hd2, hlt15⟩ := upCons hd11
      replace h9 := (code_Heights_l1.eq_2 _ _ _ _).symm.trans h9
      refine COk.seqQ fun Q382 qn382 qx382 qr382 => ?_
      refine gor hn ?_
      refine qn382 _ _ ?_
      refine COk.seqQ fun Q383 qn383 qx383 qr383 => ?_
      refine goc hn ?_
      refine bselT hlt15 ?_
      refine gok hn ?_
      refine qn383 _ _ ?_
      refine COk.seqQ fun Q384 qn384 qx384 qr384 => ?_
      refine COk.blkQ fun Q387 qn387 qe387 qx387 qr387 => ?_
      refine COk.seqQ fun Q388 qn388 qx388 qr388 => ?_
      refine gor hn ?_
      refine qn388 _ _ ?_
      refine gor hn ?_
      obtain ⟨x16, hx17, h9⟩ := bindM h9
      refine ownM hx17 ?_
      refine ldM (nthO_some hx17).2 ?_
      refine Exists.intro (List.map eInt (v5.set ((k4 : Int).toNat) (-1 : Int))) (And.intro (leLs_set (nthO_some hx17).2 (by repeat (first | exact trivial | exact rfl | (refine And.intro ?_ ?_)))) ?_)
      refine qn387 _ _ ?_
      refine qn384 _ _ ?_
      refine gor hn ?_
      refine Or.inl (And.intro (inrU hlt15 hrn) ?_)
      refine qn379 _ _ ?_
      refine EOk.done ?_
      exact ⟨⟨(n12, k4 + 1, (v5.set ((k4 : Int).toNat) (-1 : Int))), hd2, h9⟩, [], by show n12 < n12 + 1; omega, ⟨⟨rfl, rfl, rfl, rfl, rfl, trivial⟩, ⟨rfl, rfl, rfl, trivial⟩, rfl, rfl⟩⟩
  rintro ⟨v7, hv_⟩
  replace hv_ := hv_.symm
  subst hv_
  refine qn354 _ _ ?_
  refine COk.seqQ fun Q389 qn389 qx389 qr389 => ?_
  refine gor hn ?_
  refine Exists.intro (List.map eArr2Int [(⟨(0 : Int), (0 : Int)⟩ : Arr2Int)]) (And.intro (by repeat (first | exact trivial | exact rfl | (refine And.intro ?_ ?_))) ?_)
  refine qn389 _ _ ?_
  refine COk.seqQ fun Q390 qn390 qx390 qr390 => ?_
  obtain ⟨o24, h25, h⟩ := bindM h
  refine COk.joinR (ι := { s : (List Int) // o24 = Ctl.next s }) (fun s => [(3, .ptr 3 0), (4, .own 15)]) (fun s => [(3, .box [.int (0 : Int), .int (0 : Int)] 85), (15, .row 1 (List.map eInt s.1) 3)]) (fun Q622 qn622 qx622 qr622 => ?_) (by intro s; rw [hn]; rfl) ?_
  · refine COk.blkQ fun Q623 qn623 qe623 qx623 qr623 => ?_
    refine COk.loopQ (ι := { q : (Nat × (List Int) × (List Arr2Int)) // code_Heights_l2 N a0 q.1 q.2.1 q.2.2 = some o24 }) (fun q => [(1, .ptr 1 0), (3, .ptr 3 0), (4, .own 15), (6, .own 26)]) (fun q => [(1, .box (eMe a0) 74), (3, .box [.int (0 : Int), .int (0 : Int)] 85), (15, .row 1 (List.map eInt q.1.2.1) 3), (26, .row 2 (List.map eArr2Int q.1.2.2) 115)]) (fun q => q.1.1) ⟨(N, v7, [(⟨(0 : Int), (0 : Int)⟩ : Arr2Int)]), h25⟩ [] ⟨⟨rfl, rfl, rfl, rfl, trivial⟩, ⟨rfl, rfl, rfl, rfl, trivial⟩, rfl, rfl⟩ (by intro q; rw [hn]; rfl) ?_
    rintro ⟨⟨n_, v19, v20⟩, h25⟩ Q624 qn624 qx624 qr624
    rcases n_ with _ | n28
    · rw [code_Heights_l2.eq_1] at h25
      cases h25
    · replace h25 := (code_Heights_l2.eq_2 _ _ _ _ _).symm.trans h25
      refine COk.seqQ fun Q625 qn625 qx625 qr625 => ?_
      refine COk.seqQ fun Q626 qn626 qx626 qr626 => ?_
      refine gor hn ?_
      refine lenM (fun hl29 => ?_)
      refine qn626 _ _ ?_
      refine goc hn ?_
      refine bselM h25 (fun hb30 h25 => ?_) (fun hb30 h25 => ?_)
      · refine gok hn ?_
        refine qn625 _ _ ?_
        obtain ⟨o34, h33, h25⟩ := bindM h25
        refine COk.joinR (ι := { s : ((List Int) × (List Arr2Int)) // o34 = Ctl.next s }) (fun s => [(1, .ptr 1 0), (3, .ptr 3 0), (4, .own 15), (6, .own 39)]) (fun s => [(1, .box (eMe a0) 74), (3, .box [.int (0 : Int), .int (0 : Int)] 85), (15, .row 1 (List.map eInt s.1.1) 3), (39, .row 2 (List.map eArr2Int s.1.2) 115)]) (fun Q664 qn664 qx664 qr664 => ?_) (by intro s; rw [hn]; rfl) ?_
        · refine COk.blkQ fun Q665 qn665 qe665 qx665 qr665 => ?_
          refine COk.seqQ fun Q666 qn666 qx666 qr666 => ?_
          refine god hn (by kernel_rfl) ?_
          obtain ⟨x35, hx36, h33⟩ := bindM h33
          refine ownM hx36 ?_
          refine And.intro (by decide) (And.intro (by decide) ?_)
          refine ldM (nthO_some hx36).2 ?_
          obtain ⟨x37, hx38, h33⟩ := bindM h33
          refine ownM hx38 ?_
          refine And.intro (by decide) (And.intro (by decide) ?_)
          refine ldM (nthO_some hx38).2 ?_
          refine qn666 _ _ ?_
          refine COk.seqQ fun Q667 qn667 qx667 qr667 => ?_
          refine COk.sub (ts2 := [(1, .ptr 1 0), (3, .ptr 3 0), (4, .own 15), (6, .own 26), (7, .int x35.f0), (8, .int x37.f1)]) (os2 := [(1, .box (eMe a0) 74), (3, .box [.int (0 : Int), .int (0 : Int)] 85), (15, .row 1 (List.map eInt v19) 3), (26, .row 2 (List.map eArr2Int v20) 115)]) [] ⟨⟨rfl, rfl, rfl, rfl, rfl, rfl, trivial⟩, ⟨rfl, rfl, rfl, rfl, trivial⟩, rfl, rfl⟩ (by rw [hn]; rfl) ?_
          refine gor hn ?_
          obtain ⟨hg39, h33⟩ := guardM h33
          refine dropM hg39 rfl rfl ?_
          refine qn667 _ _ ?_
          refine COk.seqQ fun Q668 qn668 qx668 qr668 => ?_
          refine COk.seqQ fun Q669 qn669 qx669 qr669 => ?_
          obtain ⟨o42, h41, h33⟩ := bindM h33
          refine COk.joinR (ι := { s : Bool // o42 = s }) (fun s => [(1, .ptr 1 0), (3, .ptr 3 0), (4, .own 15), (6, .own 39), (7, .int x35.f0), (8, .int x37.f1), (48, .bool s.1)]) (fun s => [(1, .box (eMe a0) 74), (3, .box [.int (0 : Int), .int (0 : Int)] 85), (15, .row 1 (List.map eInt v19) 3), (39, .row 2 (List.map eArr2Int (v20.drop (1 : Int).toNat)) 115)]) (fun Q670 qn670 qx670 qr670 => ?_) (by intro s; rw [hn]; rfl) ?_
          · refine gor hn ?_
            refine bselM h41 (fun hb43 h41 => ?_) (fun hb43 h41 => ?_)
            · refine bselT hb43 ?_
              refine bselT hb43 ?_
              refine bselT hb43 ?_
              refine bselT hb43 ?_
              refine bselT hb43 ?_
              refine qn670 _ _ ?_
              obtain rfl := Option.some.inj h41
              refine EOk.done ?_
              exact ⟨⟨_, rfl⟩, [], trivial, ⟨⟨rfl, rfl, rfl, rfl, rfl, rfl, rfl, trivial⟩, ⟨rfl, rfl, rfl, rfl, trivial⟩, rfl, rfl⟩⟩
            · refine bselF hb43 ?_
              refine bselF hb43 ?_
              refine bselF hb43 ?_
              refine lenM (fun hl44 => ?_)
              refine bselF hb43 ?_
              refine bselF hb43 ?_
              refine qn670 _ _ ?_
              obtain rfl := Option.some.inj h41
              refine EOk.done ?_
              exact ⟨⟨_, rfl⟩, [], trivial, ⟨⟨rfl, rfl, rfl, rfl, rfl, rfl, rfl, trivial⟩, ⟨rfl, rfl, rfl, rfl, trivial⟩, rfl, rfl⟩⟩
          rintro ⟨v40, hv_⟩
          replace hv_ := hv_.symm
          subst hv_
          refine qn669 _ _ ?_
          refine goc hn ?_
          refine bselM h33 (fun hb45 h33 => ?_) (fun hb45 h33 => ?_)
          · refine COk.seqQ fun Q672 qn672 qx672 qr672 => ?_
            refine god hn (by kernel_rfl) ?_
            refine lenM (fun hl46 => ?_)
            refine qn672 _ _ ?_
            refine COk.nilrow 2 202 1 3 rfl rfl rfl ?_
            refine got hn ?_
            refine qr668 _ _ ?_
            refine qr665 _ _ ?_
            refine qr664 _ _ ?_
            refine qr624 _ _ ?_
            refine qr623 _ _ ?_
            refine qr622 _ _ ?_
            refine qr390 _ _ ?_
            obtain rfl := Option.some.inj h33
            obtain rfl := Option.some.inj h25
            obtain rfl := Option.some.inj h
            exact ⟨[(0, 202)], _, rfl, (by repeat (first | exact trivial | exact rfl | (refine And.intro ?_ ?_))), ⟨rfl, trivial⟩, rfl, rfl, rfl, rfl, rfl⟩
          · refine gok hn ?_
            refine qn668 _ _ ?_
            refine COk.seqQ fun Q673 qn673 qx673 qr673 => ?_
            refine COk.seqQ fun Q674 qn674 qx674 qr674 => ?_
            refine gor hn ?_
            obtain ⟨x47, hx48, h33⟩ := bindM h33
            refine ownM hx48 ?_
            refine ldM (nthO_some hx48).2 ?_
            refine qn674 _ _ ?_
            refine goc hn ?_
            refine bselM h33 (fun hb49 h33 => ?_) (fun hb49 h33 => ?_)
            · refine COk.seqQ fun Q679 qn679 qx679 qr679 => ?_
              refine COk.seqQ fun Q680 qn680 qx680 qr680 => ?_
              refine gor hn ?_
              obtain ⟨x50, hx51, h33⟩ := bindM h33
              refine ownM hx51 ?_
              refine ldM (nthO_some hx51).2 ?_
              refine qn680 _ _ ?_
              refine goc hn ?_
              refine bselM h33 (fun hb52 h33 => ?_) (fun hb52 h33 => ?_)
              · refine COk.seqQ fun Q681 qn681 qx681 qr681 => ?_
                refine COk.sub (ts2 := [(3, .ptr 3 0), (7, .int x35.f0)]) (os2 := [(3, .box [.int (0 : Int), .int (0 : Int)] 85)]) [] ⟨⟨rfl, rfl, trivial⟩, ⟨rfl, trivial⟩, rfl, rfl⟩ (by rw [hn]; rfl) ?_
                refine gor hn ?_
                refine qn681 _ _ ?_
                refine COk.nilrow 2 202 1 3 rfl rfl rfl ?_
                refine got hn ?_
                refine qr679 _ _ ?_
                refine qr673 _ _ ?_
                refine qr665 _ _ ?_
                refine qr664 _ _ ?_
                refine qr624 _ _ ?_
                refine qr623 _ _ ?_
                refine qr622 _ _ ?_
                refine qr390 _ _ ?_
                obtain rfl := Option.some.inj h33
                obtain rfl := Option.some.inj h25
                obtain rfl := Option.some.inj h
                exact ⟨[(0, 202)], _, rfl, (by repeat (first | exact trivial | exact rfl | (refine And.intro ?_ ?_))), ⟨rfl, trivial⟩, rfl, rfl, rfl, rfl, rfl⟩
              · refine gok hn ?_
                refine qn679 _ _ ?_
                refine goe hn ?_
                refine qx673 _ _ _ ?_
                refine qe665 _ _ ?_
                refine qn664 _ _ ?_
                obtain rfl := Option.some.inj h33
                refine EOk.done ?_
                exact ⟨⟨_, rfl⟩, [], trivial, ⟨⟨rfl, rfl, rfl, rfl, trivial⟩, ⟨rfl, rfl, rfl, rfl, trivial⟩, rfl, rfl⟩⟩
            · refine gok hn ?_
              refine qn673 _ _ ?_
              refine COk.seqQ fun Q682 qn682 qx682 qr682 => ?_
              refine gor hn ?_
              obtain ⟨x53, hx54, h33⟩ := bindM h33
              refine ownM hx54 ?_
              refine ldM (nthO_some hx54).2 ?_
              refine Exists.intro (List.map eInt (v19.set x35.f0.toNat x37.f1)) (And.intro (leLs_set (nthO_some hx54).2 (by repeat (first | exact trivial | exact rfl | (refine And.intro ?_ ?_)))) ?_)
              refine qn682 _ _ ?_
              refine COk.seqQ fun Q683 qn683 qx683 qr683 => ?_
              refine gor hn ?_
              obtain ⟨x55, hx56, h33⟩ := bindM h33
              refine idxM hx56 ?_
              refine qn683 _ _ ?_
              refine COk.seqQ fun Q684 qn684 qx684 qr684 => ?_
              refine COk.sub (ts2 := [(1, .ptr 1 0), (3, .ptr 3 0), (4, .own 15), (6, .own 39), (7, .int x35.f0), (8, .int x37.f1), (9, .ptr 9 0)]) (os2 := [(1, .box (eMe a0) 74), (3, .box [.int (0 : Int), .int (0 : Int)] 85), (9, .box (eIns x55) 81), (15, .row 1 (List.map eInt (v19.set x35.f0.toNat x37.f1)) 3), (39, .row 2 (List.map eArr2Int (v20.drop (1 : Int).toNat)) 115)]) [] ⟨⟨rfl, rfl, rfl, rfl, rfl, rfl, rfl, trivial⟩, ⟨rfl, rfl, rfl, rfl, rfl, trivial⟩, rfl, rfl⟩ (by rw [hn]; rfl) ?_
              refine gor hn ?_
              obtain ⟨r57, hr58, h33⟩ := bindM h33
              show CallOk Try.prog _ _ _ _
              refine CallOk.as (code_effect_ok N x55 r57 hr58) (by repeat (first | exact trivial | exact rfl | (refine And.intro ?_ ?_))) trivial rfl ?_
              refine qn684 _ _ ?_
              refine COk.seqQ fun Q685 qn685 qx685 qr685 => ?_
              refine COk.seqQ fun Q686 qn686 qx686 qr686 => ?_
              obtain ⟨o61, h60, h33⟩ := bindM h33
              refine COk.joinR (ι := { s : Bool // o61 = s }) (fun s => [(1, .ptr 1 0), (3, .ptr 3 0), (4, .own 15), (6, .own 39), (7, .int x35.f0), (8, .int x37.f1), (9, .ptr 9 0), (10, .int r57.1), (11, .int r57.2), (91, .bool s.1)]) (fun s => [(1, .box (eMe a0) 74), (3, .box [.int (0 : Int), .int (0 : Int)] 85), (9, .box (eIns x55) 81), (15, .row 1 (List.map eInt (v19.set x35.f0.toNat x37.f1)) 3), (39, .row 2 (List.map eArr2Int (v20.drop (1 : Int).toNat)) 115)]) (fun Q687 qn687 qx687 qr687 => ?_) (by intro s; rw [hn]; rfl) ?_
              · refine gor hn ?_
                refine bselM h60 (fun hb62 h60 => ?_) (fun hb62 h60 => ?_)
                · refine bselT hb62 ?_
                  refine bselT hb62 ?_
                  refine bselT hb62 ?_
                  refine bselT hb62 ?_
                  refine bselT hb62 ?_
                  refine qn687 _ _ ?_
                  obtain rfl := Option.some.inj h60
                  refine EOk.done ?_
                  exact ⟨⟨_, rfl⟩, [], trivial, ⟨⟨rfl, rfl, rfl, rfl, rfl, rfl, rfl, rfl, rfl, rfl, trivial⟩, ⟨rfl, rfl, rfl, rfl, rfl, trivial⟩, rfl, rfl⟩⟩
                · refine bselF hb62 ?_
                  refine bselF hb62 ?_
                  refine bselF hb62 ?_
                  refine bselM h60 (fun hb63 h60 => ?_) (fun hb63 h60 => ?_)
                  · refine bselT hb63 ?_
                    refine bselF hb62 ?_
                    refine bselT hb63 ?_
                    refine bselF hb62 ?_
                    refine qn687 _ _ ?_
                    obtain rfl := Option.some.inj h60
                    refine EOk.done ?_
                    exact ⟨⟨_, rfl⟩, [], trivial, ⟨⟨rfl, rfl, rfl, rfl, rfl, rfl, rfl, rfl, rfl, rfl, trivial⟩, ⟨rfl, rfl, rfl, rfl, rfl, trivial⟩, rfl, rfl⟩⟩
                  · refine bselF hb63 ?_
                    refine bselF hb62 ?_
                    refine bselF hb63 ?_
                    refine bselF hb62 ?_
                    refine qn687 _ _ ?_
                    obtain rfl := Option.some.inj h60
                    refine EOk.done ?_
                    exact ⟨⟨_, rfl⟩, [], trivial, ⟨⟨rfl, rfl, rfl, rfl, rfl, rfl, rfl, rfl, rfl, rfl, trivial⟩, ⟨rfl, rfl, rfl, rfl, rfl, trivial⟩, rfl, rfl⟩⟩
              rintro ⟨v59, hv_⟩
              replace hv_ := hv_.symm
              subst hv_
              refine qn686 _ _ ?_
              refine goc hn ?_
              refine bselM h33 (fun hb64 h33 => ?_) (fun hb64 h33 => ?_)
              · refine COk.seqQ fun Q689 qn689 qx689 qr689 => ?_
                refine gor hn ?_
                refine qn689 _ _ ?_
                refine COk.nilrow 2 202 1 3 rfl rfl rfl ?_
                refine got hn ?_
                refine qr685 _ _ ?_
                refine qr665 _ _ ?_
                refine qr664 _ _ ?_
                refine qr624 _ _ ?_
                refine qr623 _ _ ?_
                refine qr622 _ _ ?_
                refine qr390 _ _ ?_
                obtain rfl := Option.some.inj h33
                obtain rfl := Option.some.inj h25
                obtain rfl := Option.some.inj h
                exact ⟨[(0, 202)], _, rfl, (by repeat (first | exact trivial | exact rfl | (refine And.intro ?_ ?_))), ⟨rfl, trivial⟩, rfl, rfl, rfl, rfl, rfl⟩
              · refine gok hn ?_
                refine qn685 _ _ ?_
                refine COk.seqQ fun Q690 qn690 qx690 qr690 => ?_
                refine gor hn ?_
                refine Or.inr ?_
                refine Or.inr ?_
                refine qn690 _ _ ?_
                refine COk.seqQ fun Q691 qn691 qx691 qr691 => ?_
                refine COk.seqQ fun Q692 qn692 qx692 qr692 => ?_
                refine gor hn ?_
                refine qn692 _ _ ?_
                refine goc hn ?_
                refine bselM h33 (fun hb65 h33 => ?_) (fun hb65 h33 => ?_)
                · refine COk.seqQ fun Q694 qn694 qx694 qr694 => ?_
                  refine COk.sub (ts2 := [(3, .ptr 3 0), (7, .int x35.f0)]) (os2 := [(3, .box [.int (0 : Int), .int (0 : Int)] 85)]) [] ⟨⟨rfl, rfl, trivial⟩, ⟨rfl, trivial⟩, rfl, rfl⟩ (by rw [hn]; rfl) ?_
                  refine gor hn ?_
                  refine qn694 _ _ ?_
                  refine COk.nilrow 2 202 1 3 rfl rfl rfl ?_
                  refine got hn ?_
                  refine qr691 _ _ ?_
                  refine qr665 _ _ ?_
                  refine qr664 _ _ ?_
                  refine qr624 _ _ ?_
                  refine qr623 _ _ ?_
                  refine qr622 _ _ ?_
                  refine qr390 _ _ ?_
                  obtain rfl := Option.some.inj h33
                  obtain rfl := Option.some.inj h25
                  obtain rfl := Option.some.inj h
                  exact ⟨[(0, 202)], _, rfl, (by repeat (first | exact trivial | exact rfl | (refine And.intro ?_ ?_))), ⟨rfl, trivial⟩, rfl, rfl, rfl, rfl, rfl⟩
                · refine gok hn ?_
                  refine qn691 _ _ ?_
                  refine COk.seqQ fun Q695 qn695 qx695 qr695 => ?_
                  refine COk.seqQ fun Q696 qn696 qx696 qr696 => ?_
                  obtain ⟨o68, h67, h33⟩ := bindM h33
                  refine COk.joinR (ι := { s : Bool // o68 = s }) (fun s => [(1, .ptr 1 0), (3, .ptr 3 0), (4, .own 15), (6, .own 39), (7, .int x35.f0), (8, .int (wr (x37.f1 + (wr (r57.2 - r57.1))))), (9, .ptr 9 0), (110, .bool s.1)]) (fun s => [(1, .box (eMe a0) 74), (3, .box [.int (0 : Int), .int (0 : Int)] 85), (9, .box (eIns x55) 81), (15, .row 1 (List.map eInt (v19.set x35.f0.toNat x37.f1)) 3), (39, .row 2 (List.map eArr2Int (v20.drop (1 : Int).toNat)) 115)]) (fun Q697 qn697 qx697 qr697 => ?_) (by intro s; rw [hn]; rfl) ?_
                  · refine COk.sub (ts2 := [(1, .ptr 1 0), (3, .ptr 3 0), (4, .own 15), (6, .own 39), (7, .int x35.f0), (8, .int (wr (x37.f1 + (wr (r57.2 - r57.1))))), (9, .ptr 9 0)]) (os2 := [(1, .box (eMe a0) 74), (3, .box [.int (0 : Int), .int (0 : Int)] 85), (9, .box (eIns x55) 81), (15, .row 1 (List.map eInt (v19.set x35.f0.toNat x37.f1)) 3), (39, .row 2 (List.map eArr2Int (v20.drop (1 : Int).toNat)) 115)]) [] ⟨⟨rfl, rfl, rfl, rfl, rfl, rfl, rfl, trivial⟩, ⟨rfl, rfl, rfl, rfl, rfl, trivial⟩, rfl, rfl⟩ (by rw [hn]; rfl) ?_
                    refine gor hn ?_
                    refine bselM h67 (fun hb69 h67 => ?_) (fun hb69 h67 => ?_)
                    · refine bselT hb69 ?_
                      refine bselT hb69 ?_
                      refine bselT hb69 ?_
                      refine qn697 _ _ ?_
                      obtain rfl := Option.some.inj h67
                      refine EOk.done ?_
                      exact ⟨⟨_, rfl⟩, [], trivial, ⟨⟨rfl, rfl, rfl, rfl, rfl, rfl, rfl, rfl, trivial⟩, ⟨rfl, rfl, rfl, rfl, rfl, trivial⟩, rfl, rfl⟩⟩
                    · refine bselF hb69 ?_
                      refine bselF hb69 ?_
                      refine bselF hb69 ?_
                      refine qn697 _ _ ?_
                      obtain rfl := Option.some.inj h67
                      refine EOk.done ?_
                      exact ⟨⟨_, rfl⟩, [], trivial, ⟨⟨rfl, rfl, rfl, rfl, rfl, rfl, rfl, rfl, trivial⟩, ⟨rfl, rfl, rfl, rfl, rfl, trivial⟩, rfl, rfl⟩⟩
                  rintro ⟨v66, hv_⟩
                  replace hv_ := hv_.symm
                  subst hv_
                  refine qn696 _ _ ?_
                  obtain ⟨o72, h71, h33⟩ := bindM h33
                  refine COk.joinR (ι := { s : (List Arr2Int) // o72 = s }) (fun s => [(1, .ptr 1 0), (3, .ptr 3 0), (4, .own 15), (6, .own 117), (8, .int (wr (x37.f1 + (wr (r57.2 - r57.1))))), (9, .ptr 9 0)]) (fun s => [(1, .box (eMe a0) 74), (3, .box [.int (0 : Int), .int (0 : Int)] 85), (9, .box (eIns x55) 81), (15, .row 1 (List.map eInt (v19.set x35.f0.toNat x37.f1)) 3), (117, .row 2 (List.map eArr2Int s.1) 115)]) (fun Q698 qn698 qx698 qr698 => ?_) (by intro s; rw [hn]; rfl) ?_
                  · refine goc hn ?_
                    refine bselM h71 (fun hb73 h71 => ?_) (fun hb73 h71 => ?_)
                    · refine gor hn ?_
                      refine Or.inr ?_
                      refine Exists.intro (List.map eArr2Int [(⟨(wr (x35.f0 + (1 : Int))), (wr (x37.f1 + (wr (r57.2 - r57.1))))⟩ : Arr2Int)]) (And.intro (by repeat (first | exact trivial | exact rfl | (refine And.intro ?_ ?_))) ?_)
                      obtain ⟨hg74, h71⟩ := guardM h71
                      refine appM (l2 := [(⟨(wr (x35.f0 + (1 : Int))), (wr (x37.f1 + (wr (r57.2 - r57.1))))⟩ : Arr2Int)]) hg74 (leLs_refl _) ?_
                      refine qn698 _ _ ?_
                      obtain rfl := Option.some.inj h71
                      refine EOk.done ?_
                      exact ⟨⟨_, rfl⟩, [], trivial, ⟨⟨rfl, rfl, rfl, rfl, rfl, rfl, trivial⟩, ⟨rfl, rfl, rfl, rfl, rfl, trivial⟩, rfl, rfl⟩⟩
                    · refine gok hn ?_
                      refine qn698 _ _ ?_
                      obtain rfl := Option.some.inj h71
                      refine EOk.done ?_
                      exact ⟨⟨_, rfl⟩, [(117, 39)], trivial, ⟨⟨rfl, rfl, rfl, rfl, rfl, rfl, trivial⟩, ⟨rfl, rfl, rfl, rfl, rfl, trivial⟩, rfl, rfl⟩⟩
                  rintro ⟨v70, hv_⟩
                  replace hv_ := hv_.symm
                  subst hv_
                  refine qn695 _ _ ?_
                  refine COk.seqQ fun Q699 qn699 qx699 qr699 => ?_
                  obtain ⟨o77, h76, h33⟩ := bindM h33
                  refine COk.joinR (ι := { s : Bool // o77 = s }) (fun s => [(1, .ptr 1 0), (3, .ptr 3 0), (4, .own 15), (6, .own 117), (8, .int (wr (x37.f1 + (wr (r57.2 - r57.1))))), (9, .ptr 9 0), (125, .bool s.1)]) (fun s => [(1, .box (eMe a0) 74), (3, .box [.int (0 : Int), .int (0 : Int)] 85), (9, .box (eIns x55) 81), (15, .row 1 (List.map eInt (v19.set x35.f0.toNat x37.f1)) 3), (117, .row 2 (List.map eArr2Int v70) 115)]) (fun Q700 qn700 qx700 qr700 => ?_) (by intro s; rw [hn]; rfl) ?_
                  · refine gor hn ?_
                    refine bselM h76 (fun hb78 h76 => ?_) (fun hb78 h76 => ?_)
                    · refine bselT hb78 ?_
                      refine bselT hb78 ?_
                      refine bselT hb78 ?_
                      refine qn700 _ _ ?_
                      obtain rfl := Option.some.inj h76
                      refine EOk.done ?_
                      exact ⟨⟨_, rfl⟩, [], trivial, ⟨⟨rfl, rfl, rfl, rfl, rfl, rfl, rfl, trivial⟩, ⟨rfl, rfl, rfl, rfl, rfl, trivial⟩, rfl, rfl⟩⟩
                    · refine bselF hb78 ?_
                      refine bselF hb78 ?_
                      refine bselF hb78 ?_
                      refine qn700 _ _ ?_
                      obtain rfl := Option.some.inj h76
                      refine EOk.done ?_
                      exact ⟨⟨_, rfl⟩, [], trivial, ⟨⟨rfl, rfl, rfl, rfl, rfl, rfl, rfl, trivial⟩, ⟨rfl, rfl, rfl, rfl, rfl, trivial⟩, rfl, rfl⟩⟩
                  rintro ⟨v75, hv_⟩
                  replace hv_ := hv_.symm
                  subst hv_
                  refine qn699 _ _ ?_
                  obtain ⟨o81, h80, h33⟩ := bindM h33
                  refine COk.joinR (ι := { s : (List Arr2Int) // o81 = s }) (fun s => [(1, .ptr 1 0), (3, .ptr 3 0), (4, .own 15), (6, .own 132)]) (fun s => [(1, .box (eMe a0) 74), (3, .box [.int (0 : Int), .int (0 : Int)] 85), (15, .row 1 (List.map eInt (v19.set x35.f0.toNat x37.f1)) 3), (132, .row 2 (List.map eArr2Int s.1) 115)]) (fun Q701 qn701 qx701 qr701 => ?_) (by intro s; rw [hn]; rfl) ?_
                  · refine goc hn ?_
                    refine bselM h80 (fun hb82 h80 => ?_) (fun hb82 h80 => ?_)
                    · refine gor hn ?_
                      refine Exists.intro (List.map eArr2Int [(⟨x55.a, (wr (x37.f1 + (wr (r57.2 - r57.1))))⟩ : Arr2Int)]) (And.intro (by repeat (first | exact trivial | exact rfl | (refine And.intro ?_ ?_))) ?_)
                      obtain ⟨hg83, h80⟩ := guardM h80
                      refine appM (l2 := [(⟨x55.a, (wr (x37.f1 + (wr (r57.2 - r57.1))))⟩ : Arr2Int)]) hg83 (leLs_refl _) ?_
                      refine qn701 _ _ ?_
                      obtain rfl := Option.some.inj h80
                      refine EOk.done ?_
                      exact ⟨⟨_, rfl⟩, [], trivial, ⟨⟨rfl, rfl, rfl, rfl, trivial⟩, ⟨rfl, rfl, rfl, rfl, trivial⟩, rfl, rfl⟩⟩
                    · refine gok hn ?_
                      refine qn701 _ _ ?_
                      obtain rfl := Option.some.inj h80
                      refine EOk.done ?_
                      exact ⟨⟨_, rfl⟩, [(132, 117)], trivial, ⟨⟨rfl, rfl, rfl, rfl, trivial⟩, ⟨rfl, rfl, rfl, rfl, trivial⟩, rfl, rfl⟩⟩
                  rintro ⟨v79, hv_⟩
                  replace hv_ := hv_.symm
                  subst hv_
                  refine qn665 _ _ ?_
                  refine qn664 _ _ ?_
                  obtain rfl := Option.some.inj h33
                  refine EOk.done ?_
                  exact ⟨⟨_, rfl⟩, [(39, 132)], trivial, ⟨⟨rfl, rfl, rfl, rfl, trivial⟩, ⟨rfl, rfl, rfl, rfl, trivial⟩, rfl, rfl⟩⟩
        rintro ⟨⟨v31, v32⟩, rfl⟩
        refine qn624 _ _ ?_
        refine EOk.done ?_
        exact ⟨⟨(n28, v31, v32), h25⟩, [(26, 39)], by show n28 < n28 + 1; omega, ⟨⟨rfl, rfl, rfl, rfl, trivial⟩, ⟨rfl, rfl, rfl, rfl, trivial⟩, rfl, rfl⟩⟩
      · refine goe hn ?_
        refine qx625 _ _ _ ?_
        refine qx624 _ _ _ ?_
        refine qe623 _ _ ?_
        refine qn622 _ _ ?_
        obtain rfl := Option.some.inj h25
        refine EOk.done ?_
        exact ⟨⟨_, rfl⟩, [], trivial, ⟨⟨rfl, rfl, trivial⟩, ⟨rfl, rfl, trivial⟩, rfl, rfl⟩⟩
  rintro ⟨v23, rfl⟩
  refine qn390 _ _ ?_
  refine COk.seqQ fun Q702 qn702 qx702 qr702 => ?_
  refine gor hn ?_
  refine qn702 _ _ ?_
  refine got hn ?_
  obtain rfl := Option.some.inj h
  exact ⟨[(0, 15)], _, rfl, (by repeat (first | exact trivial | exact rfl | (refine And.intro ?_ ?_))), ⟨rfl, trivial⟩, rfl, rfl, rfl, rfl, rfl⟩
end Go.Proofs.Ytioalgofaiideaa
