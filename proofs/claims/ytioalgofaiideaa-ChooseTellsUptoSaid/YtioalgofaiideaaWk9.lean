/- Walks after the mirrors. Printed by mir.py. -/
import Derived.Test.YtioalgofaiideaaWk8
namespace Go.Proofs.Ytioalgofaiideaa
open Go.RowKit
set_option linter.unusedVariables false
/- class.Name -/
set_option maxRecDepth 100000 in
set_option maxHeartbeats 1000000 in
theorem class_Name_ok (N : Nat) (a0 : ByteArray) (r : Bool) (h : class_Name N a0 = some r) : Spec Try.prog 72 [] [.str a0] (.bool r) [] [] := by
  refine Spec.of tabOk Try.func72 rfl Try.ntmps72 (by kernel_rfl) rfl rfl rfl fun Γ hn => ?_
  unfold class_Name at h
  refine COk.seqQ fun Q60 qn60 qx60 qr60 => ?_
  refine gor hn ?_
  refine qn60 _ _ ?_
  refine COk.seqQ fun Q61 qn61 qx61 qr61 => ?_
  refine COk.seqQ fun Q62 qn62 qx62 qr62 => ?_
  obtain ⟨o3, h2, h⟩ := bindM h
  refine COk.joinR (ι := { s : Bool // o3 = s }) (fun s => [(0, .str a0), (11, .bool s.1)]) (fun s => []) (fun Q63 qn63 qx63 qr63 => ?_) (by intro s; rw [hn]; rfl) ?_
  · refine gor hn ?_
    intro hl4
    refine bselM h2 (fun hb5 h2 => ?_) (fun hb5 h2 => ?_)
    · refine bselT hb5 ?_
      refine bselT hb5 ?_
      refine bselT hb5 ?_
      refine qn63 _ _ ?_
      obtain rfl := Option.some.inj h2
      refine EOk.done ?_
      exact ⟨⟨_, rfl⟩, [], trivial, ⟨⟨rfl, rfl, trivial⟩, trivial, rfl, rfl⟩⟩
    · refine bselF hb5 ?_
      intro hl6
      refine bselF hb5 ?_
      refine bselF hb5 ?_
      refine qn63 _ _ ?_
      obtain rfl := Option.some.inj h2
      refine EOk.done ?_
      exact ⟨⟨_, rfl⟩, [], trivial, ⟨⟨rfl, rfl, trivial⟩, trivial, rfl, rfl⟩⟩
  rintro ⟨v1, hv_⟩
  replace hv_ := hv_.symm
  subst hv_
  refine qn62 _ _ ?_
  refine goc hn ?_
  refine bselM h (fun hb7 h => ?_) (fun hb7 h => ?_)
  · refine COk.seqQ fun Q65 qn65 qx65 qr65 => ?_
    refine gor hn ?_
    refine qn65 _ _ ?_
    refine got hn ?_
    refine qr61 _ _ ?_
    obtain rfl := Option.some.inj h
    exact ⟨[], _, rfl, (by repeat (first | exact trivial | exact rfl | (refine And.intro ?_ ?_))), trivial, rfl, rfl, rfl, rfl, rfl⟩
  · refine gok hn ?_
    refine qn61 _ _ ?_
    refine COk.seqQ fun Q66 qn66 qx66 qr66 => ?_
    refine COk.seqQ fun Q67 qn67 qx67 qr67 => ?_
    refine gor hn ?_
    intro hl8
    refine qn67 _ _ ?_
    refine COk.rng 13 rfl (fun hrn => ?_)
    obtain ⟨o10, h11, h⟩ := bindM h
    refine COk.joinR (ι := { s : Unit // o10 = Ctl.next s }) (fun s => []) (fun s => []) (fun Q98 qn98 qx98 qr98 => ?_) (by intro s; rw [hn]; rfl) ?_
    · refine COk.blkQ fun Q99 qn99 qe99 qx99 qr99 => ?_
      refine COk.loopQ (ι := { q : (Nat × Nat) // q.1 = ((a0.size : Int) - (q.2 : Int)).toNat ∧ class_Name_l1 N a0 q.1 q.2 = some o10 }) (fun q => [(0, .str a0), (13, .int (a0.size : Int)), (14, .int (q.1.2 : Int))]) (fun q => []) (fun q => q.1.1) ⟨(((a0.size : Int) - ((0 : Nat) : Int)).toNat, 0), rfl, h11⟩ [] ⟨⟨rfl, rfl, rfl, trivial⟩, trivial, rfl, rfl⟩ (by intro q; rw [hn]; rfl) ?_
      rintro ⟨⟨n_, k9⟩, hd13, h11⟩ Q100 qn100 qx100 qr100
      replace hd13 : n_ = ((a0.size : Int) - (k9 : Int)).toNat := hd13
      rcases n_ with _ | n14
      · have hlt17 := upNil hd13
        replace h11 := (class_Name_l1.eq_1 _ _ _).symm.trans h11
        refine COk.seqQ fun Q101 qn101 qx101 qr101 => ?_
        refine gor hn ?_
        refine qn101 _ _ ?_
        refine COk.seqQ fun Q102 qn102 qx102 qr102 => ?_
        refine goc hn ?_
        refine bselF hlt17 ?_
        refine goe hn ?_
        refine qx102 _ _ _ ?_
        refine qx100 _ _ _ ?_
        refine qe99 _ _ ?_
        refine qn98 _ _ ?_
        obtain rfl := Option.some.inj h11
        refine EOk.done ?_
        exact ⟨⟨_, rfl⟩, [], trivial, ⟨trivial, trivial, rfl, rfl⟩⟩
      · obtain ⟨hd2, hlt17⟩ := upCons hd13
        replace h11 := (class_Name_l1.eq_2 _ _ _ _).symm.trans h11
        refine COk.seqQ fun Q103 qn103 qx103 qr103 => ?_
        refine gor hn ?_
        refine qn103 _ _ ?_
        refine COk.seqQ fun Q104 qn104 qx104 qr104 => ?_
        refine goc hn ?_
        refine bselT hlt17 ?_
        refine gok hn ?_
        refine qn104 _ _ ?_
        refine COk.seqQ fun Q105 qn105 qx105 qr105 => ?_
        refine COk.blkQ fun Q112 qn112 qe112 qx112 qr112 => ?_
        refine COk.seqQ fun Q113 qn113 qx113 qr113 => ?_
        refine gor hn ?_
        refine qn113 _ _ ?_
        refine COk.seqQ fun Q114 qn114 qx114 qr114 => ?_
        obtain ⟨o20, h19, h11⟩ := bindM h11
        refine COk.joinR (ι := { s : Bool // o20 = s }) (fun s => [(0, .str a0), (13, .int (a0.size : Int)), (14, .int (k9 : Int)), (26, .bool s.1)]) (fun s => []) (fun Q115 qn115 qx115 qr115 => ?_) (by intro s; rw [hn]; rfl) ?_
        · refine gor hn ?_
          obtain ⟨u21, hx22, h19⟩ := bindM h19
          refine byM hx22 ?_
          refine And.intro rfl ?_
          refine bselM h19 (fun hb23 h19 => ?_) (fun hb23 h19 => ?_)
          · refine bselT hb23 ?_
            refine bselT hb23 ?_
            refine bselT hb23 ?_
            refine bselT hb23 ?_
            refine qn115 _ _ ?_
            obtain rfl := Option.some.inj h19
            refine EOk.done ?_
            exact ⟨⟨_, rfl⟩, [], trivial, ⟨⟨rfl, rfl, rfl, rfl, trivial⟩, trivial, rfl, rfl⟩⟩
          · refine bselF hb23 ?_
            refine bselF hb23 ?_
            obtain ⟨u24, hx25, h19⟩ := bindM h19
            refine byM hx25 ?_
            refine bselF hb23 ?_
            refine And.intro rfl ?_
            refine bselF hb23 ?_
            refine qn115 _ _ ?_
            obtain rfl := Option.some.inj h19
            refine EOk.done ?_
            exact ⟨⟨_, rfl⟩, [], trivial, ⟨⟨rfl, rfl, rfl, rfl, trivial⟩, trivial, rfl, rfl⟩⟩
        rintro ⟨v18, hv_⟩
        replace hv_ := hv_.symm
        subst hv_
        refine qn114 _ _ ?_
        refine goc hn ?_
        refine bselM h11 (fun hb26 h11 => ?_) (fun hb26 h11 => ?_)
        · refine COk.seqQ fun Q117 qn117 qx117 qr117 => ?_
          refine gor hn ?_
          refine qn117 _ _ ?_
          refine got hn ?_
          refine qr112 _ _ ?_
          refine qr105 _ _ ?_
          refine qr100 _ _ ?_
          refine qr99 _ _ ?_
          refine qr98 _ _ ?_
          refine qr66 _ _ ?_
          obtain rfl := Option.some.inj h11
          obtain rfl := Option.some.inj h
          exact ⟨[], _, rfl, (by repeat (first | exact trivial | exact rfl | (refine And.intro ?_ ?_))), trivial, rfl, rfl, rfl, rfl, rfl⟩
        · refine gok hn ?_
          refine qn112 _ _ ?_
          refine qn105 _ _ ?_
          refine gor hn ?_
          refine Or.inl (And.intro (inrU hlt17 hrn) ?_)
          refine qn100 _ _ ?_
          refine EOk.done ?_
          exact ⟨⟨(n14, k9 + 1), hd2, h11⟩, [], by show n14 < n14 + 1; omega, ⟨⟨rfl, rfl, rfl, trivial⟩, trivial, rfl, rfl⟩⟩
    rintro ⟨⟨⟩, rfl⟩
    refine qn66 _ _ ?_
    refine COk.seqQ fun Q118 qn118 qx118 qr118 => ?_
    refine gor hn ?_
    refine qn118 _ _ ?_
    refine got hn ?_
    obtain rfl := Option.some.inj h
    exact ⟨[], _, rfl, (by repeat (first | exact trivial | exact rfl | (refine And.intro ?_ ?_))), trivial, rfl, rfl, rfl, rfl, rfl⟩

/- code.numbers$1 -/
set_option maxRecDepth 100000 in
set_option maxHeartbeats 1000000 in
theorem code_numbers_1_ok (N : Nat) (a0 : Int) (a1 : Int) (r : Bool) (h : code_numbers_1 N a0 a1 = some r) : Spec Try.prog 79 [] [.int a0, .int a1] (.bool r) [] [] := by
  refine Spec.of tabOk Try.func79 rfl Try.ntmps79 (by kernel_rfl) rfl rfl rfl fun Γ hn => ?_
  unfold code_numbers_1 at h
  refine COk.seqQ fun Q4 qn4 qx4 qr4 => ?_
  refine gor hn ?_
  refine qn4 _ _ ?_
  refine COk.seqQ fun Q5 qn5 qx5 qr5 => ?_
  obtain ⟨o3, h2, h⟩ := bindM h
  refine COk.joinR (ι := { s : Bool // o3 = s }) (fun s => [(4, .bool s.1)]) (fun s => []) (fun Q6 qn6 qx6 qr6 => ?_) (by intro s; rw [hn]; rfl) ?_
  · refine gor hn ?_
    refine bselM h2 (fun hb4 h2 => ?_) (fun hb4 h2 => ?_)
    · refine bselT hb4 ?_
      refine bselT hb4 ?_
      refine bselT hb4 ?_
      refine qn6 _ _ ?_
      obtain rfl := Option.some.inj h2
      refine EOk.done ?_
      exact ⟨⟨_, rfl⟩, [], trivial, ⟨⟨rfl, trivial⟩, trivial, rfl, rfl⟩⟩
    · refine bselF hb4 ?_
      refine bselF hb4 ?_
      refine bselF hb4 ?_
      refine qn6 _ _ ?_
      obtain rfl := Option.some.inj h2
      refine EOk.done ?_
      exact ⟨⟨_, rfl⟩, [], trivial, ⟨⟨rfl, trivial⟩, trivial, rfl, rfl⟩⟩
  rintro ⟨v1, hv_⟩
  replace hv_ := hv_.symm
  subst hv_
  refine qn5 _ _ ?_
  refine got hn ?_
  obtain rfl := Option.some.inj h
  exact ⟨[], _, rfl, (by repeat (first | exact trivial | exact rfl | (refine And.intro ?_ ?_))), trivial, rfl, rfl, rfl, rfl, rfl⟩

/- class.Slots -/
set_option maxRecDepth 100000 in
set_option maxHeartbeats 1000000 in
theorem class_Slots_ok (N : Nat) (a0 : Wd) (a1 : Int) (r : Int) (h : class_Slots N a0 a1 = some r) : Spec Try.prog 80 [] [.agg (eWd a0), .int a1] (.int r) [] [] := by
  refine Spec.of tabOk Try.func80 rfl Try.ntmps80 (by kernel_rfl) rfl rfl rfl fun Γ hn => ?_
  unfold class_Slots at h
  refine COk.seqQ fun Q41 qn41 qx41 qr41 => ?_
  refine gor hn ?_
  refine qn41 _ _ ?_
  refine COk.seqQ fun Q42 qn42 qx42 qr42 => ?_
  refine gor hn ?_
  refine qn42 _ _ ?_
  refine COk.seqQ fun Q43 qn43 qx43 qr43 => ?_
  refine COk.seqQ fun Q44 qn44 qx44 qr44 => ?_
  refine gor hn ?_
  refine qn44 _ _ ?_
  obtain ⟨o9, h10, h⟩ := bindM h
  refine COk.joinR (ι := { s : Int // o9 = s }) (fun s => [(5, .int s.1)]) (fun s => []) (fun Q69 qn69 qx69 qr69 => ?_) (by intro s; rw [hn]; rfl) ?_
  · refine COk.blkQ fun Q70 qn70 qe70 qx70 qr70 => ?_
    refine COk.loopQ (ι := { q : (Nat × Int × Int × Int) // class_Slots_l1 N a0 q.1 q.2.1 q.2.2.1 q.2.2.2 = some o9 }) (fun q => [(1, .int q.1.2.1), (2, .ptr 2 0), (5, .int q.1.2.2.1), (6, .int q.1.2.2.2)]) (fun q => [(2, .box (eWd a0) 55)]) (fun q => q.1.1) ⟨(N, a1, (0 : Int), (0 : Int)), h10⟩ [] ⟨⟨rfl, rfl, rfl, rfl, trivial⟩, ⟨rfl, trivial⟩, rfl, rfl⟩ (by intro q; rw [hn]; rfl) ?_
    rintro ⟨⟨n_, v2, v3, v4⟩, h10⟩ Q71 qn71 qx71 qr71
    rcases n_ with _ | n13
    · rw [class_Slots_l1.eq_1] at h10
      cases h10
    · replace h10 := (class_Slots_l1.eq_2 _ _ _ _ _ _).symm.trans h10
      refine COk.seqQ fun Q72 qn72 qx72 qr72 => ?_
      refine COk.seqQ fun Q73 qn73 qx73 qr73 => ?_
      obtain ⟨o16, h15, h10⟩ := bindM h10
      refine COk.joinR (ι := { s : Bool // o16 = s }) (fun s => [(1, .int v2), (2, .ptr 2 0), (5, .int v3), (6, .int v4), (22, .bool s.1)]) (fun s => [(2, .box (eWd a0) 55)]) (fun Q74 qn74 qx74 qr74 => ?_) (by intro s; rw [hn]; rfl) ?_
      · refine gor hn ?_
        refine bselM h15 (fun hb17 h15 => ?_) (fun hb17 h15 => ?_)
        · refine bselT hb17 ?_
          refine bselT hb17 ?_
          refine bselT hb17 ?_
          refine lenM (fun hl18 => ?_)
          refine bselT hb17 ?_
          refine bselT hb17 ?_
          refine bselM h15 (fun hb19 h15 => ?_) (fun hb19 h15 => ?_)
          · refine bselT hb19 ?_
            refine bselT hb19 ?_
            refine bselT hb19 ?_
            refine lenM (fun hl20 => ?_)
            refine bselT hb19 ?_
            refine bselT hb19 ?_
            refine qn74 _ _ ?_
            obtain rfl := Option.some.inj h15
            refine EOk.done ?_
            exact ⟨⟨_, rfl⟩, [], trivial, ⟨⟨rfl, rfl, rfl, rfl, rfl, trivial⟩, ⟨rfl, trivial⟩, rfl, rfl⟩⟩
          · refine bselF hb19 ?_
            refine bselF hb19 ?_
            refine bselF hb19 ?_
            refine bselF hb19 ?_
            refine bselF hb19 ?_
            refine qn74 _ _ ?_
            obtain rfl := Option.some.inj h15
            refine EOk.done ?_
            exact ⟨⟨_, rfl⟩, [], trivial, ⟨⟨rfl, rfl, rfl, rfl, rfl, trivial⟩, ⟨rfl, trivial⟩, rfl, rfl⟩⟩
        · refine bselF hb17 ?_
          refine bselF hb17 ?_
          refine bselF hb17 ?_
          refine bselF hb17 ?_
          refine bselF hb17 ?_
          refine qn74 _ _ ?_
          obtain rfl := Option.some.inj h15
          refine EOk.done ?_
          exact ⟨⟨_, rfl⟩, [], trivial, ⟨⟨rfl, rfl, rfl, rfl, rfl, trivial⟩, ⟨rfl, trivial⟩, rfl, rfl⟩⟩
      rintro ⟨v14, hv_⟩
      replace hv_ := hv_.symm
      subst hv_
      refine qn73 _ _ ?_
      refine goc hn ?_
      refine bselM h10 (fun hb21 h10 => ?_) (fun hb21 h10 => ?_)
      · refine gok hn ?_
        refine qn72 _ _ ?_
        refine COk.seqQ fun Q75 qn75 qx75 qr75 => ?_
        refine COk.blkQ fun Q78 qn78 qe78 qx78 qr78 => ?_
        refine COk.seqQ fun Q79 qn79 qx79 qr79 => ?_
        refine gor hn ?_
        obtain ⟨x22, hx23, h10⟩ := bindM h10
        refine idxM hx23 ?_
        refine Or.inr ?_
        refine qn79 _ _ ?_
        refine gor hn ?_
        obtain ⟨x24, hx25, h10⟩ := bindM h10
        refine idxM hx25 ?_
        refine qn78 _ _ ?_
        refine qn75 _ _ ?_
        refine COk.sub (ts2 := [(1, .int x24.super), (2, .ptr 2 0), (5, .int (wr (v3 + x22.slots))), (6, .int v4)]) (os2 := [(2, .box (eWd a0) 55)]) [] ⟨⟨rfl, rfl, rfl, rfl, trivial⟩, ⟨rfl, trivial⟩, rfl, rfl⟩ (by rw [hn]; rfl) ?_
        refine gor hn ?_
        refine Or.inr ?_
        refine qn71 _ _ ?_
        refine EOk.done ?_
        exact ⟨⟨(n13, x24.super, (wr (v3 + x22.slots)), (wr (v4 + (1 : Int)))), h10⟩, [], by show n13 < n13 + 1; omega, ⟨⟨rfl, rfl, rfl, rfl, trivial⟩, ⟨rfl, trivial⟩, rfl, rfl⟩⟩
      · refine goe hn ?_
        refine qx72 _ _ _ ?_
        refine qx71 _ _ _ ?_
        refine qe70 _ _ ?_
        refine qn69 _ _ ?_
        obtain rfl := Option.some.inj h10
        refine EOk.done ?_
        exact ⟨⟨_, rfl⟩, [], trivial, ⟨⟨rfl, trivial⟩, trivial, rfl, rfl⟩⟩
  rintro ⟨v8, hv_⟩
  replace hv_ := hv_.symm
  subst hv_
  refine qn43 _ _ ?_
  refine COk.seqQ fun Q80 qn80 qx80 qr80 => ?_
  refine gor hn ?_
  refine qn80 _ _ ?_
  refine got hn ?_
  obtain rfl := Option.some.inj h
  exact ⟨[], _, rfl, (by repeat (first | exact trivial | exact rfl | (refine And.intro ?_ ?_))), trivial, rfl, rfl, rfl, rfl, rfl⟩

/- code.numbers -/
set_option maxRecDepth 100000 in
set_option maxHeartbeats 1000000 in
theorem code_numbers_ok (N : Nat) (a0 : Wd) (a1 : Int) (a2 : Me) (a3 : Ins) (r : Int) (h : code_numbers N a0 a1 a2 a3 = some r) : Spec Try.prog 73 [] [.fp (eWd a0), .int a1, .fp (eMe a2), .agg (eIns a3)] (.int r) [] [] := by
  refine Spec.of tabOk Try.func73 rfl Try.ntmps73 (by kernel_rfl) rfl rfl rfl fun Γ hn => ?_
  unfold code_numbers at h
  refine COk.seqQ fun Q29820 qn29820 qx29820 qr29820 => ?_
  refine gor hn ?_
  refine qn29820 _ _ ?_
  refine COk.seqQ fun Q29821 qn29821 qx29821 qr29821 => ?_
  refine gor hn ?_
  refine qn29821 _ _ ?_
  refine COk.seqQ fun Q29822 qn29822 qx29822 qr29822 => ?_
  refine gor hn ?_
  refine qn29822 _ _ ?_
  refine COk.seqQ fun Q29823 qn29823 qx29823 qr29823 => ?_
  refine COk.seqQ fun Q29824 qn29824 qx29824 qr29824 => ?_
  refine gor hn ?_
  refine qn29824 _ _ ?_
  refine COk.blkQ fun Q44719 qn44719 qe44719 qx44719 qr44719 => ?_
  refine COk.seqQ fun Q44720 qn44720 qx44720 qr44720 => ?_
  refine COk.seqQ fun Q44721 qn44721 qx44721 qr44721 => ?_
  refine gor hn ?_
  refine qn44721 _ _ ?_
  obtain ⟨o3, h2, h⟩ := bindM h
  refine COk.joinR (ι := { s : Bool // o3 = s }) (fun s => [(0, .fp (eWd a0)), (1, .int a1), (2, .fp (eMe a2)), (7, .ptr 7 0), (9, .fn 79 []), (11, .bool false), (13, .int a3.op), (14, .bool s.1)]) (fun s => [(7, .box (eIns a3) 81)]) (fun Q45206 qn45206 qx45206 qr45206 => ?_) (by intro s; rw [hn]; rfl) ?_
  · refine goc hn ?_
    refine bselM h2 (fun hb4 h2 => ?_) (fun hb4 h2 => ?_)
    · refine gok hn ?_
      refine qn45206 _ _ ?_
      obtain rfl := Option.some.inj h2
      refine EOk.done ?_
      exact ⟨⟨_, rfl⟩, [], trivial, ⟨⟨(by repeat (first | exact trivial | exact rfl | (refine And.intro ?_ ?_))), rfl, (by repeat (first | exact trivial | exact rfl | (refine And.intro ?_ ?_))), rfl, (by repeat (first | exact trivial | exact rfl | (refine And.intro ?_ ?_))), rfl, rfl, rfl, trivial⟩, ⟨rfl, trivial⟩, rfl, rfl⟩⟩
    · refine COk.seqQ fun Q45207 qn45207 qx45207 qr45207 => ?_
      refine gor hn ?_
      refine qn45207 _ _ ?_
      obtain ⟨o7, h6, h2⟩ := bindM h2
      refine COk.joinR (ι := { s : Bool // o7 = s }) (fun s => [(0, .fp (eWd a0)), (1, .int a1), (2, .fp (eMe a2)), (7, .ptr 7 0), (9, .fn 79 []), (11, .bool false), (13, .int a3.op), (14, .bool s.1)]) (fun s => [(7, .box (eIns a3) 81)]) (fun Q45368 qn45368 qx45368 qr45368 => ?_) (by intro s; rw [hn]; rfl) ?_
      · refine goc hn ?_
        refine bselM h6 (fun hb8 h6 => ?_) (fun hb8 h6 => ?_)
        · refine gok hn ?_
          refine qn45368 _ _ ?_
          obtain rfl := Option.some.inj h6
          refine EOk.done ?_
          exact ⟨⟨_, rfl⟩, [], trivial, ⟨⟨(by repeat (first | exact trivial | exact rfl | (refine And.intro ?_ ?_))), rfl, (by repeat (first | exact trivial | exact rfl | (refine And.intro ?_ ?_))), rfl, (by repeat (first | exact trivial | exact rfl | (refine And.intro ?_ ?_))), rfl, rfl, rfl, trivial⟩, ⟨rfl, trivial⟩, rfl, rfl⟩⟩
        · refine COk.seqQ fun Q45369 qn45369 qx45369 qr45369 => ?_
          refine gor hn ?_
          refine qn45369 _ _ ?_
          obtain ⟨o11, h10, h6⟩ := bindM h6
          refine COk.joinR (ι := { s : Bool // o11 = s }) (fun s => [(0, .fp (eWd a0)), (1, .int a1), (2, .fp (eMe a2)), (7, .ptr 7 0), (9, .fn 79 []), (11, .bool false), (13, .int a3.op), (14, .bool s.1)]) (fun s => [(7, .box (eIns a3) 81)]) (fun Q45422 qn45422 qx45422 qr45422 => ?_) (by intro s; rw [hn]; rfl) ?_
          · refine goc hn ?_
            refine bselM h10 (fun hb12 h10 => ?_) (fun hb12 h10 => ?_)
            · refine gok hn ?_
              refine qn45422 _ _ ?_
              obtain rfl := Option.some.inj h10
              refine EOk.done ?_
              exact ⟨⟨_, rfl⟩, [], trivial, ⟨⟨(by repeat (first | exact trivial | exact rfl | (refine And.intro ?_ ?_))), rfl, (by repeat (first | exact trivial | exact rfl | (refine And.intro ?_ ?_))), rfl, (by repeat (first | exact trivial | exact rfl | (refine And.intro ?_ ?_))), rfl, rfl, rfl, trivial⟩, ⟨rfl, trivial⟩, rfl, rfl⟩⟩
            · refine COk.seqQ fun Q45423 qn45423 qx45423 qr45423 => ?_
              refine gor hn ?_
              refine qn45423 _ _ ?_
              obtain ⟨o15, h14, h10⟩ := bindM h10
              refine COk.joinR (ι := { s : Bool // o15 = s }) (fun s => [(0, .fp (eWd a0)), (1, .int a1), (2, .fp (eMe a2)), (7, .ptr 7 0), (9, .fn 79 []), (11, .bool false), (13, .int a3.op), (14, .bool s.1)]) (fun s => [(7, .box (eIns a3) 81)]) (fun Q45440 qn45440 qx45440 qr45440 => ?_) (by intro s; rw [hn]; rfl) ?_
              · refine goc hn ?_
                refine bselM h14 (fun hb16 h14 => ?_) (fun hb16 h14 => ?_)
                · refine gok hn ?_
                  refine qn45440 _ _ ?_
                  obtain rfl := Option.some.inj h14
                  refine EOk.done ?_
                  exact ⟨⟨_, rfl⟩, [], trivial, ⟨⟨(by repeat (first | exact trivial | exact rfl | (refine And.intro ?_ ?_))), rfl, (by repeat (first | exact trivial | exact rfl | (refine And.intro ?_ ?_))), rfl, (by repeat (first | exact trivial | exact rfl | (refine And.intro ?_ ?_))), rfl, rfl, rfl, trivial⟩, ⟨rfl, trivial⟩, rfl, rfl⟩⟩
                · refine COk.seqQ fun Q45441 qn45441 qx45441 qr45441 => ?_
                  refine gor hn ?_
                  refine qn45441 _ _ ?_
                  obtain ⟨o19, h18, h14⟩ := bindM h14
                  refine COk.joinR (ι := { s : Bool // o19 = s }) (fun s => [(0, .fp (eWd a0)), (1, .int a1), (2, .fp (eMe a2)), (7, .ptr 7 0), (9, .fn 79 []), (11, .bool false), (13, .int a3.op), (14, .bool s.1)]) (fun s => [(7, .box (eIns a3) 81)]) (fun Q45446 qn45446 qx45446 qr45446 => ?_) (by intro s; rw [hn]; rfl) ?_
                  · refine goc hn ?_
                    refine bselM h18 (fun hb20 h18 => ?_) (fun hb20 h18 => ?_)
                    · refine gok hn ?_
                      refine qn45446 _ _ ?_
                      obtain rfl := Option.some.inj h18
                      refine EOk.done ?_
                      exact ⟨⟨_, rfl⟩, [], trivial, ⟨⟨(by repeat (first | exact trivial | exact rfl | (refine And.intro ?_ ?_))), rfl, (by repeat (first | exact trivial | exact rfl | (refine And.intro ?_ ?_))), rfl, (by repeat (first | exact trivial | exact rfl | (refine And.intro ?_ ?_))), rfl, rfl, rfl, trivial⟩, ⟨rfl, trivial⟩, rfl, rfl⟩⟩
                    · refine COk.seqQ fun Q45447 qn45447 qx45447 qr45447 => ?_
                      refine COk.sub (ts2 := [(0, .fp (eWd a0)), (1, .int a1), (2, .fp (eMe a2)), (7, .ptr 7 0), (9, .fn 79 []), (11, .bool false), (13, .int a3.op)]) (os2 := [(7, .box (eIns a3) 81)]) [] ⟨⟨(by repeat (first | exact trivial | exact rfl | (refine And.intro ?_ ?_))), rfl, (by repeat (first | exact trivial | exact rfl | (refine And.intro ?_ ?_))), rfl, (by repeat (first | exact trivial | exact rfl | (refine And.intro ?_ ?_))), rfl, rfl, trivial⟩, ⟨rfl, trivial⟩, rfl, rfl⟩ (by rw [hn]; rfl) ?_
                      refine gor hn ?_
                      refine qn45447 _ _ ?_
                      obtain ⟨o23, h22, h18⟩ := bindM h18
                      refine COk.joinR (ι := { s : Bool // o23 = s }) (fun s => [(0, .fp (eWd a0)), (1, .int a1), (2, .fp (eMe a2)), (7, .ptr 7 0), (9, .fn 79 []), (11, .bool false), (13, .int a3.op), (14, .bool s.1)]) (fun s => [(7, .box (eIns a3) 81)]) (fun Q45448 qn45448 qx45448 qr45448 => ?_) (by intro s; rw [hn]; rfl) ?_
                      · refine goc hn ?_
                        refine bselM h22 (fun hb24 h22 => ?_) (fun hb24 h22 => ?_)
                        · refine gok hn ?_
                          refine qn45448 _ _ ?_
                          obtain rfl := Option.some.inj h22
                          refine EOk.done ?_
                          exact ⟨⟨_, rfl⟩, [], trivial, ⟨⟨(by repeat (first | exact trivial | exact rfl | (refine And.intro ?_ ?_))), rfl, (by repeat (first | exact trivial | exact rfl | (refine And.intro ?_ ?_))), rfl, (by repeat (first | exact trivial | exact rfl | (refine And.intro ?_ ?_))), rfl, rfl, rfl, trivial⟩, ⟨rfl, trivial⟩, rfl, rfl⟩⟩
                        · refine gor hn ?_
                          refine qn45448 _ _ ?_
                          obtain rfl := Option.some.inj h22
                          refine EOk.done ?_
                          exact ⟨⟨_, rfl⟩, [], trivial, ⟨⟨(by repeat (first | exact trivial | exact rfl | (refine And.intro ?_ ?_))), rfl, (by repeat (first | exact trivial | exact rfl | (refine And.intro ?_ ?_))), rfl, (by repeat (first | exact trivial | exact rfl | (refine And.intro ?_ ?_))), rfl, rfl, rfl, trivial⟩, ⟨rfl, trivial⟩, rfl, rfl⟩⟩
                      rintro ⟨v21, hv_⟩
                      replace hv_ := hv_.symm
                      subst hv_
                      refine qn45446 _ _ ?_
                      obtain rfl := Option.some.inj h18
                      refine EOk.done ?_
                      exact ⟨⟨_, rfl⟩, [], trivial, ⟨⟨(by repeat (first | exact trivial | exact rfl | (refine And.intro ?_ ?_))), rfl, (by repeat (first | exact trivial | exact rfl | (refine And.intro ?_ ?_))), rfl, (by repeat (first | exact trivial | exact rfl | (refine And.intro ?_ ?_))), rfl, rfl, rfl, trivial⟩, ⟨rfl, trivial⟩, rfl, rfl⟩⟩
                  rintro ⟨v17, hv_⟩
                  replace hv_ := hv_.symm
                  subst hv_
                  refine qn45440 _ _ ?_
                  obtain rfl := Option.some.inj h14
                  refine EOk.done ?_
                  exact ⟨⟨_, rfl⟩, [], trivial, ⟨⟨(by repeat (first | exact trivial | exact rfl | (refine And.intro ?_ ?_))), rfl, (by repeat (first | exact trivial | exact rfl | (refine And.intro ?_ ?_))), rfl, (by repeat (first | exact trivial | exact rfl | (refine And.intro ?_ ?_))), rfl, rfl, rfl, trivial⟩, ⟨rfl, trivial⟩, rfl, rfl⟩⟩
              rintro ⟨v13, hv_⟩
              replace hv_ := hv_.symm
              subst hv_
              refine qn45422 _ _ ?_
              obtain rfl := Option.some.inj h10
              refine EOk.done ?_
              exact ⟨⟨_, rfl⟩, [], trivial, ⟨⟨(by repeat (first | exact trivial | exact rfl | (refine And.intro ?_ ?_))), rfl, (by repeat (first | exact trivial | exact rfl | (refine And.intro ?_ ?_))), rfl, (by repeat (first | exact trivial | exact rfl | (refine And.intro ?_ ?_))), rfl, rfl, rfl, trivial⟩, ⟨rfl, trivial⟩, rfl, rfl⟩⟩
          rintro ⟨v9, hv_⟩
          replace hv_ := hv_.symm
          subst hv_
          refine qn45368 _ _ ?_
          obtain rfl := Option.some.inj h6
          refine EOk.done ?_
          exact ⟨⟨_, rfl⟩, [], trivial, ⟨⟨(by repeat (first | exact trivial | exact rfl | (refine And.intro ?_ ?_))), rfl, (by repeat (first | exact trivial | exact rfl | (refine And.intro ?_ ?_))), rfl, (by repeat (first | exact trivial | exact rfl | (refine And.intro ?_ ?_))), rfl, rfl, rfl, trivial⟩, ⟨rfl, trivial⟩, rfl, rfl⟩⟩
      rintro ⟨v5, hv_⟩
      replace hv_ := hv_.symm
      subst hv_
      refine qn45206 _ _ ?_
      obtain rfl := Option.some.inj h2
      refine EOk.done ?_
      exact ⟨⟨_, rfl⟩, [], trivial, ⟨⟨(by repeat (first | exact trivial | exact rfl | (refine And.intro ?_ ?_))), rfl, (by repeat (first | exact trivial | exact rfl | (refine And.intro ?_ ?_))), rfl, (by repeat (first | exact trivial | exact rfl | (refine And.intro ?_ ?_))), rfl, rfl, rfl, trivial⟩, ⟨rfl, trivial⟩, rfl, rfl⟩⟩
  rintro ⟨v1, hv_⟩
  replace hv_ := hv_.symm
  subst hv_
  refine qn44720 _ _ ?_
  obtain ⟨o28, h27, h⟩ := bindM h
  refine COk.joinR (ι := { s : (Bool × Bool) // o28 = Ctl.next s }) (fun s => [(7, .ptr 7 0), (10, .bool s.1.1), (11, .bool s.1.2)]) (fun s => [(7, .box (eIns a3) 81)]) (fun Q54891 qn54891 qx54891 qr54891 => ?_) (by intro s; rw [hn]; rfl) ?_
  · refine goc hn ?_
    refine bselM h27 (fun hb29 h27 => ?_) (fun hb29 h27 => ?_)
    · refine gor hn ?_
      refine qn54891 _ _ ?_
      obtain rfl := Option.some.inj h27
      refine EOk.done ?_
      exact ⟨⟨_, rfl⟩, [], trivial, ⟨⟨rfl, rfl, rfl, trivial⟩, ⟨rfl, trivial⟩, rfl, rfl⟩⟩
    · refine COk.seqQ fun Q54892 qn54892 qx54892 qr54892 => ?_
      refine gor hn ?_
      refine qn54892 _ _ ?_
      obtain ⟨o33, h32, h27⟩ := bindM h27
      refine COk.joinR (ι := { s : (Bool × Bool) // o33 = Ctl.next s }) (fun s => [(7, .ptr 7 0), (10, .bool s.1.1), (11, .bool s.1.2)]) (fun s => [(7, .box (eIns a3) 81)]) (fun Q58039 qn58039 qx58039 qr58039 => ?_) (by intro s; rw [hn]; rfl) ?_
      · refine goc hn ?_
        refine bselM h32 (fun hb34 h32 => ?_) (fun hb34 h32 => ?_)
        · refine god hn (by kernel_rfl) ?_
          obtain ⟨r35, hr36, h32⟩ := bindM h32
          show CallOk Try.prog _ _ _ _
          refine CallOk.as (code_numbers_1_ok N a3.a a2.args r35 hr36) (by repeat (first | exact trivial | exact rfl | (refine And.intro ?_ ?_))) trivial rfl ?_
          refine qn58039 _ _ ?_
          obtain rfl := Option.some.inj h32
          refine EOk.done ?_
          exact ⟨⟨_, rfl⟩, [], trivial, ⟨⟨rfl, rfl, rfl, trivial⟩, ⟨rfl, trivial⟩, rfl, rfl⟩⟩
        · refine COk.seqQ fun Q58040 qn58040 qx58040 qr58040 => ?_
          refine COk.seqQ fun Q58041 qn58041 qx58041 qr58041 => ?_
          refine gor hn ?_
          refine qn58041 _ _ ?_
          obtain ⟨o39, h38, h32⟩ := bindM h32
          refine COk.joinR (ι := { s : Bool // o39 = s }) (fun s => [(0, .fp (eWd a0)), (1, .int a1), (2, .fp (eMe a2)), (7, .ptr 7 0), (9, .fn 79 []), (11, .bool false), (13, .int a3.op), (35, .bool s.1)]) (fun s => [(7, .box (eIns a3) 81)]) (fun Q58042 qn58042 qx58042 qr58042 => ?_) (by intro s; rw [hn]; rfl) ?_
          · refine goc hn ?_
            refine bselM h38 (fun hb40 h38 => ?_) (fun hb40 h38 => ?_)
            · refine gok hn ?_
              refine qn58042 _ _ ?_
              obtain rfl := Option.some.inj h38
              refine EOk.done ?_
              exact ⟨⟨_, rfl⟩, [], trivial, ⟨⟨(by repeat (first | exact trivial | exact rfl | (refine And.intro ?_ ?_))), rfl, (by repeat (first | exact trivial | exact rfl | (refine And.intro ?_ ?_))), rfl, (by repeat (first | exact trivial | exact rfl | (refine And.intro ?_ ?_))), rfl, rfl, rfl, trivial⟩, ⟨rfl, trivial⟩, rfl, rfl⟩⟩
            · refine gor hn ?_
              refine qn58042 _ _ ?_
              obtain rfl := Option.some.inj h38
              refine EOk.done ?_
              exact ⟨⟨_, rfl⟩, [], trivial, ⟨⟨(by repeat (first | exact trivial | exact rfl | (refine And.intro ?_ ?_))), rfl, (by repeat (first | exact trivial | exact rfl | (refine And.intro ?_ ?_))), rfl, (by repeat (first | exact trivial | exact rfl | (refine And.intro ?_ ?_))), rfl, rfl, rfl, trivial⟩, ⟨rfl, trivial⟩, rfl, rfl⟩⟩
          rintro ⟨v37, hv_⟩
          replace hv_ := hv_.symm
          subst hv_
          refine qn58040 _ _ ?_
          obtain ⟨o44, h43, h32⟩ := bindM h32
          refine COk.joinR (ι := { s : (Bool × Bool) // o44 = Ctl.next s }) (fun s => [(7, .ptr 7 0), (10, .bool s.1.1), (11, .bool s.1.2)]) (fun s => [(7, .box (eIns a3) 81)]) (fun Q59089 qn59089 qx59089 qr59089 => ?_) (by intro s; rw [hn]; rfl) ?_
          · refine goc hn ?_
            refine bselM h43 (fun hb45 h43 => ?_) (fun hb45 h43 => ?_)
            · refine god hn (by kernel_rfl) ?_
              obtain ⟨r46, hr47, h43⟩ := bindM h43
              show CallOk Try.prog _ _ _ _
              refine CallOk.as (code_numbers_1_ok N a3.a a2.temps r46 hr47) (by repeat (first | exact trivial | exact rfl | (refine And.intro ?_ ?_))) trivial rfl ?_
              refine qn59089 _ _ ?_
              obtain rfl := Option.some.inj h43
              refine EOk.done ?_
              exact ⟨⟨_, rfl⟩, [], trivial, ⟨⟨rfl, rfl, rfl, trivial⟩, ⟨rfl, trivial⟩, rfl, rfl⟩⟩
            · refine COk.seqQ fun Q59090 qn59090 qx59090 qr59090 => ?_
              refine COk.seqQ fun Q59091 qn59091 qx59091 qr59091 => ?_
              refine gor hn ?_
              refine qn59091 _ _ ?_
              obtain ⟨o50, h49, h43⟩ := bindM h43
              refine COk.joinR (ι := { s : Bool // o50 = s }) (fun s => [(0, .fp (eWd a0)), (1, .int a1), (2, .fp (eMe a2)), (7, .ptr 7 0), (9, .fn 79 []), (11, .bool false), (13, .int a3.op), (46, .bool s.1)]) (fun s => [(7, .box (eIns a3) 81)]) (fun Q59092 qn59092 qx59092 qr59092 => ?_) (by intro s; rw [hn]; rfl) ?_
              · refine goc hn ?_
                refine bselM h49 (fun hb51 h49 => ?_) (fun hb51 h49 => ?_)
                · refine gok hn ?_
                  refine qn59092 _ _ ?_
                  obtain rfl := Option.some.inj h49
                  refine EOk.done ?_
                  exact ⟨⟨_, rfl⟩, [], trivial, ⟨⟨(by repeat (first | exact trivial | exact rfl | (refine And.intro ?_ ?_))), rfl, (by repeat (first | exact trivial | exact rfl | (refine And.intro ?_ ?_))), rfl, (by repeat (first | exact trivial | exact rfl | (refine And.intro ?_ ?_))), rfl, rfl, rfl, trivial⟩, ⟨rfl, trivial⟩, rfl, rfl⟩⟩
                · refine gor hn ?_
                  refine qn59092 _ _ ?_
                  obtain rfl := Option.some.inj h49
                  refine EOk.done ?_
                  exact ⟨⟨_, rfl⟩, [], trivial, ⟨⟨(by repeat (first | exact trivial | exact rfl | (refine And.intro ?_ ?_))), rfl, (by repeat (first | exact trivial | exact rfl | (refine And.intro ?_ ?_))), rfl, (by repeat (first | exact trivial | exact rfl | (refine And.intro ?_ ?_))), rfl, rfl, rfl, trivial⟩, ⟨rfl, trivial⟩, rfl, rfl⟩⟩
              rintro ⟨v48, hv_⟩
              replace hv_ := hv_.symm
              subst hv_
              refine qn59090 _ _ ?_
              obtain ⟨o55, h54, h43⟩ := bindM h43
              refine COk.joinR (ι := { s : (Bool × Bool) // o55 = Ctl.next s }) (fun s => [(7, .ptr 7 0), (10, .bool s.1.1), (11, .bool s.1.2)]) (fun s => [(7, .box (eIns a3) 81)]) (fun Q59439 qn59439 qx59439 qr59439 => ?_) (by intro s; rw [hn]; rfl) ?_
              · refine goc hn ?_
                refine bselM h54 (fun hb56 h54 => ?_) (fun hb56 h54 => ?_)
                · refine god hn (by kernel_rfl) ?_
                  obtain ⟨r57, hr58, h54⟩ := bindM h54
                  show CallOk Try.prog _ _ _ _
                  refine CallOk.as (class_Slots_ok N a0 a1 r57 hr58) (by repeat (first | exact trivial | exact rfl | (refine And.intro ?_ ?_))) trivial rfl ?_
                  obtain ⟨r59, hr60, h54⟩ := bindM h54
                  show CallOk Try.prog _ _ _ _
                  refine CallOk.as (code_numbers_1_ok N a3.a r57 r59 hr60) (by repeat (first | exact trivial | exact rfl | (refine And.intro ?_ ?_))) trivial rfl ?_
                  refine qn59439 _ _ ?_
                  obtain rfl := Option.some.inj h54
                  refine EOk.done ?_
                  exact ⟨⟨_, rfl⟩, [], trivial, ⟨⟨rfl, rfl, rfl, trivial⟩, ⟨rfl, trivial⟩, rfl, rfl⟩⟩
                · refine COk.seqQ fun Q59440 qn59440 qx59440 qr59440 => ?_
                  refine gor hn ?_
                  refine qn59440 _ _ ?_
                  obtain ⟨o64, h63, h54⟩ := bindM h54
                  refine COk.joinR (ι := { s : (Bool × Bool) // o64 = Ctl.next s }) (fun s => [(7, .ptr 7 0), (10, .bool s.1.1), (11, .bool s.1.2)]) (fun s => [(7, .box (eIns a3) 81)]) (fun Q59555 qn59555 qx59555 qr59555 => ?_) (by intro s; rw [hn]; rfl) ?_
                  · refine goc hn ?_
                    refine bselM h63 (fun hb65 h63 => ?_) (fun hb65 h63 => ?_)
                    · obtain ⟨o68, h67, h63⟩ := bindM h63
                      refine COk.joinR (ι := { s : Bool // o68 = s }) (fun s => [(7, .ptr 7 0), (10, .bool s.1), (11, .bool false)]) (fun s => [(7, .box (eIns a3) 81)]) (fun Q59556 qn59556 qx59556 qr59556 => ?_) (by intro s; rw [hn]; rfl) ?_
                      · refine gor hn ?_
                        refine bselM h67 (fun hb69 h67 => ?_) (fun hb69 h67 => ?_)
                        · refine bselT hb69 ?_
                          refine bselT hb69 ?_
                          refine bselT hb69 ?_
                          refine qn59556 _ _ ?_
                          obtain rfl := Option.some.inj h67
                          refine EOk.done ?_
                          exact ⟨⟨_, rfl⟩, [], trivial, ⟨⟨rfl, rfl, rfl, trivial⟩, ⟨rfl, trivial⟩, rfl, rfl⟩⟩
                        · refine bselF hb69 ?_
                          refine bselF hb69 ?_
                          refine bselF hb69 ?_
                          refine qn59556 _ _ ?_
                          obtain rfl := Option.some.inj h67
                          refine EOk.done ?_
                          exact ⟨⟨_, rfl⟩, [], trivial, ⟨⟨rfl, rfl, rfl, trivial⟩, ⟨rfl, trivial⟩, rfl, rfl⟩⟩
                      rintro ⟨v66, hv_⟩
                      replace hv_ := hv_.symm
                      subst hv_
                      refine qn59555 _ _ ?_
                      obtain rfl := Option.some.inj h63
                      refine EOk.done ?_
                      exact ⟨⟨_, rfl⟩, [], trivial, ⟨⟨rfl, rfl, rfl, trivial⟩, ⟨rfl, trivial⟩, rfl, rfl⟩⟩
                    · refine COk.seqQ fun Q59557 qn59557 qx59557 qr59557 => ?_
                      refine gor hn ?_
                      refine qn59557 _ _ ?_
                      obtain ⟨o73, h72, h63⟩ := bindM h63
                      refine COk.joinR (ι := { s : (Bool × Bool) // o73 = Ctl.next s }) (fun s => [(7, .ptr 7 0), (10, .bool s.1.1), (11, .bool s.1.2)]) (fun s => [(7, .box (eIns a3) 81)]) (fun Q59594 qn59594 qx59594 qr59594 => ?_) (by intro s; rw [hn]; rfl) ?_
                      · refine goc hn ?_
                        refine bselM h72 (fun hb74 h72 => ?_) (fun hb74 h72 => ?_)
                        · obtain ⟨o77, h76, h72⟩ := bindM h72
                          refine COk.joinR (ι := { s : Bool // o77 = s }) (fun s => [(7, .ptr 7 0), (10, .bool s.1), (11, .bool false)]) (fun s => [(7, .box (eIns a3) 81)]) (fun Q59595 qn59595 qx59595 qr59595 => ?_) (by intro s; rw [hn]; rfl) ?_
                          · refine COk.sub (ts2 := [(0, .fp (eWd a0)), (7, .ptr 7 0), (11, .bool false)]) (os2 := [(7, .box (eIns a3) 81)]) [] ⟨⟨(by repeat (first | exact trivial | exact rfl | (refine And.intro ?_ ?_))), rfl, rfl, trivial⟩, ⟨rfl, trivial⟩, rfl, rfl⟩ (by rw [hn]; rfl) ?_
                            refine god hn (by kernel_rfl) ?_
                            refine bselM h76 (fun hb78 h76 => ?_) (fun hb78 h76 => ?_)
                            · refine bselT hb78 ?_
                              refine bselT hb78 ?_
                              refine bselT hb78 ?_
                              refine bselT hb78 ?_
                              refine bselT hb78 ?_
                              refine qn59595 _ _ ?_
                              obtain rfl := Option.some.inj h76
                              refine EOk.done ?_
                              exact ⟨⟨_, rfl⟩, [], trivial, ⟨⟨rfl, rfl, rfl, trivial⟩, ⟨rfl, trivial⟩, rfl, rfl⟩⟩
                            · refine bselF hb78 ?_
                              refine bselF hb78 ?_
                              refine bselF hb78 ?_
                              refine bselM h76 (fun hb79 h76 => ?_) (fun hb79 h76 => ?_)
                              · refine bselT hb79 ?_
                                refine bselT hb79 ?_
                                refine bselT hb79 ?_
                                refine bselT hb79 ?_
                                refine bselT hb79 ?_
                                refine bselT hb79 ?_
                                refine lenM (fun hl80 => ?_)
                                refine bselT hb79 ?_
                                refine bselF hb78 ?_
                                refine bselT hb79 ?_
                                refine bselF hb78 ?_
                                refine qn59595 _ _ ?_
                                obtain rfl := Option.some.inj h76
                                refine EOk.done ?_
                                exact ⟨⟨_, rfl⟩, [], trivial, ⟨⟨rfl, rfl, rfl, trivial⟩, ⟨rfl, trivial⟩, rfl, rfl⟩⟩
                              · refine bselF hb79 ?_
                                refine bselF hb79 ?_
                                refine bselF hb79 ?_
                                refine bselF hb79 ?_
                                refine bselF hb79 ?_
                                refine bselF hb79 ?_
                                refine bselF hb79 ?_
                                refine bselF hb78 ?_
                                refine bselF hb79 ?_
                                refine bselF hb78 ?_
                                refine qn59595 _ _ ?_
                                obtain rfl := Option.some.inj h76
                                refine EOk.done ?_
                                exact ⟨⟨_, rfl⟩, [], trivial, ⟨⟨rfl, rfl, rfl, trivial⟩, ⟨rfl, trivial⟩, rfl, rfl⟩⟩
                          rintro ⟨v75, hv_⟩
                          replace hv_ := hv_.symm
                          subst hv_
                          refine qn59594 _ _ ?_
                          obtain rfl := Option.some.inj h72
                          refine EOk.done ?_
                          exact ⟨⟨_, rfl⟩, [], trivial, ⟨⟨rfl, rfl, rfl, trivial⟩, ⟨rfl, trivial⟩, rfl, rfl⟩⟩
                        · refine COk.seqQ fun Q59596 qn59596 qx59596 qr59596 => ?_
                          refine gor hn ?_
                          refine qn59596 _ _ ?_
                          obtain ⟨o84, h83, h72⟩ := bindM h72
                          refine COk.joinR (ι := { s : (Bool × Bool) // o84 = Ctl.next s }) (fun s => [(7, .ptr 7 0), (10, .bool s.1.1), (11, .bool s.1.2)]) (fun s => [(7, .box (eIns a3) 81)]) (fun Q59607 qn59607 qx59607 qr59607 => ?_) (by intro s; rw [hn]; rfl) ?_
                          · refine goc hn ?_
                            refine bselM h83 (fun hb85 h83 => ?_) (fun hb85 h83 => ?_)
                            · refine gor hn ?_
                              obtain ⟨r86, hr87, h83⟩ := bindM h83
                              show CallOk Try.prog _ _ _ _
                              refine CallOk.as (code_numbers_1_ok N a3.a (5 : Int) r86 hr87) (by repeat (first | exact trivial | exact rfl | (refine And.intro ?_ ?_))) trivial rfl ?_
                              refine qn59607 _ _ ?_
                              obtain rfl := Option.some.inj h83
                              refine EOk.done ?_
                              exact ⟨⟨_, rfl⟩, [], trivial, ⟨⟨rfl, rfl, rfl, trivial⟩, ⟨rfl, trivial⟩, rfl, rfl⟩⟩
                            · refine COk.seqQ fun Q59608 qn59608 qx59608 qr59608 => ?_
                              refine COk.seqQ fun Q59609 qn59609 qx59609 qr59609 => ?_
                              refine gor hn ?_
                              refine qn59609 _ _ ?_
                              obtain ⟨o90, h89, h83⟩ := bindM h83
                              refine COk.joinR (ι := { s : Bool // o90 = s }) (fun s => [(2, .fp (eMe a2)), (7, .ptr 7 0), (9, .fn 79 []), (11, .bool false), (94, .bool s.1)]) (fun s => [(7, .box (eIns a3) 81)]) (fun Q59610 qn59610 qx59610 qr59610 => ?_) (by intro s; rw [hn]; rfl) ?_
                              · refine goc hn ?_
                                refine bselM h89 (fun hb91 h89 => ?_) (fun hb91 h89 => ?_)
                                · refine gok hn ?_
                                  refine qn59610 _ _ ?_
                                  obtain rfl := Option.some.inj h89
                                  refine EOk.done ?_
                                  exact ⟨⟨_, rfl⟩, [], trivial, ⟨⟨(by repeat (first | exact trivial | exact rfl | (refine And.intro ?_ ?_))), rfl, (by repeat (first | exact trivial | exact rfl | (refine And.intro ?_ ?_))), rfl, rfl, trivial⟩, ⟨rfl, trivial⟩, rfl, rfl⟩⟩
                                · refine gor hn ?_
                                  refine qn59610 _ _ ?_
                                  obtain rfl := Option.some.inj h89
                                  refine EOk.done ?_
                                  exact ⟨⟨_, rfl⟩, [], trivial, ⟨⟨(by repeat (first | exact trivial | exact rfl | (refine And.intro ?_ ?_))), rfl, (by repeat (first | exact trivial | exact rfl | (refine And.intro ?_ ?_))), rfl, rfl, trivial⟩, ⟨rfl, trivial⟩, rfl, rfl⟩⟩
                              rintro ⟨v88, hv_⟩
                              replace hv_ := hv_.symm
                              subst hv_
                              refine qn59608 _ _ ?_
                              refine goc hn ?_
                              refine bselM h83 (fun hb92 h83 => ?_) (fun hb92 h83 => ?_)
                              · refine god hn (by kernel_rfl) ?_
                                refine lenM (fun hl93 => ?_)
                                obtain ⟨r94, hr95, h83⟩ := bindM h83
                                show CallOk Try.prog _ _ _ _
                                refine CallOk.as (code_numbers_1_ok N a3.a (a2.code.length : Int) r94 hr95) (by repeat (first | exact trivial | exact rfl | (refine And.intro ?_ ?_))) trivial rfl ?_
                                refine qn59607 _ _ ?_
                                obtain rfl := Option.some.inj h83
                                refine EOk.done ?_
                                exact ⟨⟨_, rfl⟩, [], trivial, ⟨⟨rfl, rfl, rfl, trivial⟩, ⟨rfl, trivial⟩, rfl, rfl⟩⟩
                              · refine COk.seqQ fun Q59612 qn59612 qx59612 qr59612 => ?_
                                refine gor hn ?_
                                refine qn59612 _ _ ?_
                                refine got hn ?_
                                refine qr59607 _ _ ?_
                                refine qr59594 _ _ ?_
                                refine qr59555 _ _ ?_
                                refine qr59439 _ _ ?_
                                refine qr59089 _ _ ?_
                                refine qr58039 _ _ ?_
                                refine qr54891 _ _ ?_
                                refine qr44719 _ _ ?_
                                refine qr29823 _ _ ?_
                                obtain rfl := Option.some.inj h83
                                obtain rfl := Option.some.inj h72
                                obtain rfl := Option.some.inj h63
                                obtain rfl := Option.some.inj h54
                                obtain rfl := Option.some.inj h43
                                obtain rfl := Option.some.inj h32
                                obtain rfl := Option.some.inj h27
                                obtain rfl := Option.some.inj h
                                exact ⟨[], _, rfl, (by repeat (first | exact trivial | exact rfl | (refine And.intro ?_ ?_))), trivial, rfl, rfl, rfl, rfl, rfl⟩
                          rintro ⟨⟨v81, v82⟩, rfl⟩
                          refine qn59594 _ _ ?_
                          obtain rfl := Option.some.inj h72
                          refine EOk.done ?_
                          exact ⟨⟨_, rfl⟩, [], trivial, ⟨⟨rfl, rfl, rfl, trivial⟩, ⟨rfl, trivial⟩, rfl, rfl⟩⟩
                      rintro ⟨⟨v70, v71⟩, rfl⟩
                      refine qn59555 _ _ ?_
                      obtain rfl := Option.some.inj h63
                      refine EOk.done ?_
                      exact ⟨⟨_, rfl⟩, [], trivial, ⟨⟨rfl, rfl, rfl, trivial⟩, ⟨rfl, trivial⟩, rfl, rfl⟩⟩
                  rintro ⟨⟨v61, v62⟩, rfl⟩
                  refine qn59439 _ _ ?_
                  obtain rfl := Option.some.inj h54
                  refine EOk.done ?_
                  exact ⟨⟨_, rfl⟩, [], trivial, ⟨⟨rfl, rfl, rfl, trivial⟩, ⟨rfl, trivial⟩, rfl, rfl⟩⟩
              rintro ⟨⟨v52, v53⟩, rfl⟩
              refine qn59089 _ _ ?_
              obtain rfl := Option.some.inj h43
              refine EOk.done ?_
              exact ⟨⟨_, rfl⟩, [], trivial, ⟨⟨rfl, rfl, rfl, trivial⟩, ⟨rfl, trivial⟩, rfl, rfl⟩⟩
          rintro ⟨⟨v41, v42⟩, rfl⟩
          refine qn58039 _ _ ?_
          obtain rfl := Option.some.inj h32
          refine EOk.done ?_
          exact ⟨⟨_, rfl⟩, [], trivial, ⟨⟨rfl, rfl, rfl, trivial⟩, ⟨rfl, trivial⟩, rfl, rfl⟩⟩
      rintro ⟨⟨v30, v31⟩, rfl⟩
      refine qn54891 _ _ ?_
      obtain rfl := Option.some.inj h27
      refine EOk.done ?_
      exact ⟨⟨_, rfl⟩, [], trivial, ⟨⟨rfl, rfl, rfl, trivial⟩, ⟨rfl, trivial⟩, rfl, rfl⟩⟩
  rintro ⟨⟨v25, v26⟩, rfl⟩
  refine qn44719 _ _ ?_
  refine qn29823 _ _ ?_
  refine COk.seqQ fun Q59613 qn59613 qx59613 qr59613 => ?_
  refine COk.blkQ fun Q59626 qn59626 qe59626 qx59626 qr59626 => ?_
  refine COk.seqQ fun Q59627 qn59627 qx59627 qr59627 => ?_
  refine gor hn ?_
  refine qn59627 _ _ ?_
  refine goc hn ?_
  refine bselM h (fun hb96 h => ?_) (fun hb96 h => ?_)
  · refine COk.seqQ fun Q59633 qn59633 qx59633 qr59633 => ?_
    refine gor hn ?_
    refine qn59633 _ _ ?_
    refine got hn ?_
    refine qr59626 _ _ ?_
    refine qr59613 _ _ ?_
    obtain rfl := Option.some.inj h
    exact ⟨[], _, rfl, (by repeat (first | exact trivial | exact rfl | (refine And.intro ?_ ?_))), trivial, rfl, rfl, rfl, rfl, rfl⟩
  · refine COk.seqQ fun Q59634 qn59634 qx59634 qr59634 => ?_
    obtain ⟨o99, h98, h⟩ := bindM h
    refine COk.joinR (ι := { s : Bool // o99 = s }) (fun s => [(109, .bool s.1)]) (fun s => []) (fun Q59635 qn59635 qx59635 qr59635 => ?_) (by intro s; rw [hn]; rfl) ?_
    · refine gor hn ?_
      refine bselM h98 (fun hb100 h98 => ?_) (fun hb100 h98 => ?_)
      · refine bselT hb100 ?_
        refine bselT hb100 ?_
        obtain ⟨r101, hr102, h98⟩ := bindM h98
        show CallOk Try.prog _ _ _ _
        refine CallOk.as (class_Name_ok N a3.name r101 hr102) (by repeat (first | exact trivial | exact rfl | (refine And.intro ?_ ?_))) trivial rfl ?_
        refine bselT hb100 ?_
        refine bselT hb100 ?_
        refine bselM h98 (fun hb103 h98 => ?_) (fun hb103 h98 => ?_)
        · refine bselT hb103 ?_
          refine bselT hb103 ?_
          refine bselT hb103 ?_
          refine bselT hb103 ?_
          refine qn59635 _ _ ?_
          obtain rfl := Option.some.inj h98
          refine EOk.done ?_
          exact ⟨⟨_, rfl⟩, [], trivial, ⟨⟨rfl, trivial⟩, trivial, rfl, rfl⟩⟩
        · refine bselF hb103 ?_
          refine bselF hb103 ?_
          refine bselM h98 (fun hb104 h98 => ?_) (fun hb104 h98 => ?_)
          · refine bselT hb104 ?_
            refine bselT hb104 ?_
            refine bselF hb103 ?_
            refine bselT hb104 ?_
            refine bselF hb103 ?_
            refine bselM h98 (fun hb105 h98 => ?_) (fun hb105 h98 => ?_)
            · refine bselT hb105 ?_
              refine bselT hb105 ?_
              refine bselT hb105 ?_
              refine qn59635 _ _ ?_
              obtain rfl := Option.some.inj h98
              refine EOk.done ?_
              exact ⟨⟨_, rfl⟩, [], trivial, ⟨⟨rfl, trivial⟩, trivial, rfl, rfl⟩⟩
            · refine bselF hb105 ?_
              refine bselF hb105 ?_
              refine bselF hb105 ?_
              refine bselM h98 (fun hb106 h98 => ?_) (fun hb106 h98 => ?_)
              · refine bselT hb106 ?_
                refine bselT hb106 ?_
                refine bselT hb106 ?_
                refine qn59635 _ _ ?_
                obtain rfl := Option.some.inj h98
                refine EOk.done ?_
                exact ⟨⟨_, rfl⟩, [], trivial, ⟨⟨rfl, trivial⟩, trivial, rfl, rfl⟩⟩
              · refine bselF hb106 ?_
                refine bselF hb106 ?_
                refine bselF hb106 ?_
                refine qn59635 _ _ ?_
                obtain rfl := Option.some.inj h98
                refine EOk.done ?_
                exact ⟨⟨_, rfl⟩, [], trivial, ⟨⟨rfl, trivial⟩, trivial, rfl, rfl⟩⟩
          · refine bselF hb104 ?_
            refine bselF hb104 ?_
            refine bselF hb103 ?_
            refine bselF hb104 ?_
            refine bselF hb103 ?_
            refine bselM h98 (fun hb107 h98 => ?_) (fun hb107 h98 => ?_)
            · refine bselT hb107 ?_
              refine bselT hb107 ?_
              refine bselT hb107 ?_
              refine qn59635 _ _ ?_
              obtain rfl := Option.some.inj h98
              refine EOk.done ?_
              exact ⟨⟨_, rfl⟩, [], trivial, ⟨⟨rfl, trivial⟩, trivial, rfl, rfl⟩⟩
            · refine bselF hb107 ?_
              refine bselF hb107 ?_
              refine bselF hb107 ?_
              refine qn59635 _ _ ?_
              obtain rfl := Option.some.inj h98
              refine EOk.done ?_
              exact ⟨⟨_, rfl⟩, [], trivial, ⟨⟨rfl, trivial⟩, trivial, rfl, rfl⟩⟩
      · refine bselF hb100 ?_
        refine bselF hb100 ?_
        refine bselF hb100 ?_
        refine bselF hb100 ?_
        refine bselM h98 (fun hb108 h98 => ?_) (fun hb108 h98 => ?_)
        · refine bselT hb108 ?_
          refine bselT hb108 ?_
          refine bselT hb108 ?_
          refine bselM h98 (fun hb109 h98 => ?_) (fun hb109 h98 => ?_)
          · refine bselT hb109 ?_
            refine bselT hb109 ?_
            refine bselT hb109 ?_
            refine qn59635 _ _ ?_
            obtain rfl := Option.some.inj h98
            refine EOk.done ?_
            exact ⟨⟨_, rfl⟩, [], trivial, ⟨⟨rfl, trivial⟩, trivial, rfl, rfl⟩⟩
          · refine bselF hb109 ?_
            refine bselF hb109 ?_
            refine bselF hb109 ?_
            refine bselM h98 (fun hb110 h98 => ?_) (fun hb110 h98 => ?_)
            · refine bselT hb110 ?_
              refine bselT hb110 ?_
              refine bselT hb110 ?_
              refine qn59635 _ _ ?_
              obtain rfl := Option.some.inj h98
              refine EOk.done ?_
              exact ⟨⟨_, rfl⟩, [], trivial, ⟨⟨rfl, trivial⟩, trivial, rfl, rfl⟩⟩
            · refine bselF hb110 ?_
              refine bselF hb110 ?_
              refine bselF hb110 ?_
              refine qn59635 _ _ ?_
              obtain rfl := Option.some.inj h98
              refine EOk.done ?_
              exact ⟨⟨_, rfl⟩, [], trivial, ⟨⟨rfl, trivial⟩, trivial, rfl, rfl⟩⟩
        · refine bselF hb108 ?_
          refine bselF hb108 ?_
          refine bselF hb108 ?_
          refine bselM h98 (fun hb111 h98 => ?_) (fun hb111 h98 => ?_)
          · refine bselT hb111 ?_
            refine bselT hb111 ?_
            refine bselT hb111 ?_
            refine qn59635 _ _ ?_
            obtain rfl := Option.some.inj h98
            refine EOk.done ?_
            exact ⟨⟨_, rfl⟩, [], trivial, ⟨⟨rfl, trivial⟩, trivial, rfl, rfl⟩⟩
          · refine bselF hb111 ?_
            refine bselF hb111 ?_
            refine bselF hb111 ?_
            refine qn59635 _ _ ?_
            obtain rfl := Option.some.inj h98
            refine EOk.done ?_
            exact ⟨⟨_, rfl⟩, [], trivial, ⟨⟨rfl, trivial⟩, trivial, rfl, rfl⟩⟩
    rintro ⟨v97, hv_⟩
    replace hv_ := hv_.symm
    subst hv_
    refine qn59634 _ _ ?_
    refine goc hn ?_
    refine bselM h (fun hb112 h => ?_) (fun hb112 h => ?_)
    · refine COk.seqQ fun Q59637 qn59637 qx59637 qr59637 => ?_
      refine gor hn ?_
      refine qn59637 _ _ ?_
      refine got hn ?_
      refine qr59626 _ _ ?_
      refine qr59613 _ _ ?_
      obtain rfl := Option.some.inj h
      exact ⟨[], _, rfl, (by repeat (first | exact trivial | exact rfl | (refine And.intro ?_ ?_))), trivial, rfl, rfl, rfl, rfl, rfl⟩
    · refine gok hn ?_
      refine qn59626 _ _ ?_
      refine qn59613 _ _ ?_
      refine COk.seqQ fun Q59638 qn59638 qx59638 qr59638 => ?_
      refine gor hn ?_
      refine qn59638 _ _ ?_
      refine got hn ?_
      obtain rfl := Option.some.inj h
      exact ⟨[], _, rfl, (by repeat (first | exact trivial | exact rfl | (refine And.intro ?_ ?_))), trivial, rfl, rfl, rfl, rfl, rfl⟩

/- code.effect -/
set_option maxRecDepth 100000 in
set_option maxHeartbeats 1000000 in
theorem code_effect_ok (N : Nat) (a0 : Ins) (r : (Int × Int)) (h : code_effect N a0 = some r) : Spec Try.prog 75 [] [.agg (eIns a0)] (.tup [.int r.1, .int r.2]) [] [] := by
  refine Spec.of tabOk Try.func75 rfl Try.ntmps75 (by kernel_rfl) rfl rfl rfl fun Γ hn => ?_
  unfold code_effect at h
  refine COk.seqQ fun Q257 qn257 qx257 qr257 => ?_
  refine gor hn ?_
  refine qn257 _ _ ?_
  refine COk.seqQ fun Q258 qn258 qx258 qr258 => ?_
  refine COk.seqQ fun Q259 qn259 qx259 qr259 => ?_
  refine gor hn ?_
  refine qn259 _ _ ?_
  refine COk.blkQ fun Q386 qn386 qe386 qx386 qr386 => ?_
  refine COk.seqQ fun Q387 qn387 qx387 qr387 => ?_
  refine COk.seqQ fun Q388 qn388 qx388 qr388 => ?_
  refine gor hn ?_
  refine qn388 _ _ ?_
  obtain ⟨o3, h2, h⟩ := bindM h
  refine COk.joinR (ι := { s : Bool // o3 = s }) (fun s => [(1, .ptr 1 0), (5, .int a0.op), (6, .bool s.1)]) (fun s => [(1, .box (eIns a0) 81)]) (fun Q441 qn441 qx441 qr441 => ?_) (by intro s; rw [hn]; rfl) ?_
  · refine goc hn ?_
    refine bselM h2 (fun hb4 h2 => ?_) (fun hb4 h2 => ?_)
    · refine gok hn ?_
      refine qn441 _ _ ?_
      obtain rfl := Option.some.inj h2
      refine EOk.done ?_
      exact ⟨⟨_, rfl⟩, [], trivial, ⟨⟨rfl, rfl, rfl, trivial⟩, ⟨rfl, trivial⟩, rfl, rfl⟩⟩
    · refine COk.seqQ fun Q442 qn442 qx442 qr442 => ?_
      refine gor hn ?_
      refine qn442 _ _ ?_
      obtain ⟨o7, h6, h2⟩ := bindM h2
      refine COk.joinR (ι := { s : Bool // o7 = s }) (fun s => [(1, .ptr 1 0), (5, .int a0.op), (6, .bool s.1)]) (fun s => [(1, .box (eIns a0) 81)]) (fun Q459 qn459 qx459 qr459 => ?_) (by intro s; rw [hn]; rfl) ?_
      · refine goc hn ?_
        refine bselM h6 (fun hb8 h6 => ?_) (fun hb8 h6 => ?_)
        · refine gok hn ?_
          refine qn459 _ _ ?_
          obtain rfl := Option.some.inj h6
          refine EOk.done ?_
          exact ⟨⟨_, rfl⟩, [], trivial, ⟨⟨rfl, rfl, rfl, trivial⟩, ⟨rfl, trivial⟩, rfl, rfl⟩⟩
        · refine COk.seqQ fun Q460 qn460 qx460 qr460 => ?_
          refine gor hn ?_
          refine qn460 _ _ ?_
          obtain ⟨o11, h10, h6⟩ := bindM h6
          refine COk.joinR (ι := { s : Bool // o11 = s }) (fun s => [(1, .ptr 1 0), (5, .int a0.op), (6, .bool s.1)]) (fun s => [(1, .box (eIns a0) 81)]) (fun Q465 qn465 qx465 qr465 => ?_) (by intro s; rw [hn]; rfl) ?_
          · refine goc hn ?_
            refine bselM h10 (fun hb12 h10 => ?_) (fun hb12 h10 => ?_)
            · refine gok hn ?_
              refine qn465 _ _ ?_
              obtain rfl := Option.some.inj h10
              refine EOk.done ?_
              exact ⟨⟨_, rfl⟩, [], trivial, ⟨⟨rfl, rfl, rfl, trivial⟩, ⟨rfl, trivial⟩, rfl, rfl⟩⟩
            · refine COk.seqQ fun Q466 qn466 qx466 qr466 => ?_
              refine gor hn ?_
              refine qn466 _ _ ?_
              obtain ⟨o15, h14, h10⟩ := bindM h10
              refine COk.joinR (ι := { s : Bool // o15 = s }) (fun s => [(1, .ptr 1 0), (5, .int a0.op), (6, .bool s.1)]) (fun s => [(1, .box (eIns a0) 81)]) (fun Q467 qn467 qx467 qr467 => ?_) (by intro s; rw [hn]; rfl) ?_
              · refine goc hn ?_
                refine bselM h14 (fun hb16 h14 => ?_) (fun hb16 h14 => ?_)
                · refine gok hn ?_
                  refine qn467 _ _ ?_
                  obtain rfl := Option.some.inj h14
                  refine EOk.done ?_
                  exact ⟨⟨_, rfl⟩, [], trivial, ⟨⟨rfl, rfl, rfl, trivial⟩, ⟨rfl, trivial⟩, rfl, rfl⟩⟩
                · refine gor hn ?_
                  refine qn467 _ _ ?_
                  obtain rfl := Option.some.inj h14
                  refine EOk.done ?_
                  exact ⟨⟨_, rfl⟩, [], trivial, ⟨⟨rfl, rfl, rfl, trivial⟩, ⟨rfl, trivial⟩, rfl, rfl⟩⟩
              rintro ⟨v13, hv_⟩
              replace hv_ := hv_.symm
              subst hv_
              refine qn465 _ _ ?_
              obtain rfl := Option.some.inj h10
              refine EOk.done ?_
              exact ⟨⟨_, rfl⟩, [], trivial, ⟨⟨rfl, rfl, rfl, trivial⟩, ⟨rfl, trivial⟩, rfl, rfl⟩⟩
          rintro ⟨v9, hv_⟩
          replace hv_ := hv_.symm
          subst hv_
          refine qn459 _ _ ?_
          obtain rfl := Option.some.inj h6
          refine EOk.done ?_
          exact ⟨⟨_, rfl⟩, [], trivial, ⟨⟨rfl, rfl, rfl, trivial⟩, ⟨rfl, trivial⟩, rfl, rfl⟩⟩
      rintro ⟨v5, hv_⟩
      replace hv_ := hv_.symm
      subst hv_
      refine qn441 _ _ ?_
      obtain rfl := Option.some.inj h2
      refine EOk.done ?_
      exact ⟨⟨_, rfl⟩, [], trivial, ⟨⟨rfl, rfl, rfl, trivial⟩, ⟨rfl, trivial⟩, rfl, rfl⟩⟩
  rintro ⟨v1, hv_⟩
  replace hv_ := hv_.symm
  subst hv_
  refine qn387 _ _ ?_
  refine goc hn ?_
  refine bselM h (fun hb17 h => ?_) (fun hb17 h => ?_)
  · refine COk.seqQ fun Q490 qn490 qx490 qr490 => ?_
    refine gor hn ?_
    refine qn490 _ _ ?_
    refine got hn ?_
    refine qr386 _ _ ?_
    refine qr258 _ _ ?_
    obtain rfl := Option.some.inj h
    exact ⟨[], _, rfl, (by repeat (first | exact trivial | exact rfl | (refine And.intro ?_ ?_))), trivial, rfl, rfl, rfl, rfl, rfl⟩
  · refine COk.seqQ fun Q491 qn491 qx491 qr491 => ?_
    refine gor hn ?_
    refine qn491 _ _ ?_
    refine goc hn ?_
    refine bselM h (fun hb18 h => ?_) (fun hb18 h => ?_)
    · refine COk.seqQ fun Q502 qn502 qx502 qr502 => ?_
      refine gor hn ?_
      refine qn502 _ _ ?_
      refine got hn ?_
      refine qr386 _ _ ?_
      refine qr258 _ _ ?_
      obtain rfl := Option.some.inj h
      exact ⟨[], _, rfl, (by repeat (first | exact trivial | exact rfl | (refine And.intro ?_ ?_))), trivial, rfl, rfl, rfl, rfl, rfl⟩
    · refine COk.seqQ fun Q503 qn503 qx503 qr503 => ?_
      refine gor hn ?_
      refine qn503 _ _ ?_
      refine goc hn ?_
      refine bselM h (fun hb19 h => ?_) (fun hb19 h => ?_)
      · refine COk.seqQ fun Q508 qn508 qx508 qr508 => ?_
        refine gor hn ?_
        refine Or.inr ?_
        refine qn508 _ _ ?_
        refine got hn ?_
        refine qr386 _ _ ?_
        refine qr258 _ _ ?_
        obtain rfl := Option.some.inj h
        exact ⟨[], _, rfl, (by repeat (first | exact trivial | exact rfl | (refine And.intro ?_ ?_))), trivial, rfl, rfl, rfl, rfl, rfl⟩
      · refine COk.seqQ fun Q509 qn509 qx509 qr509 => ?_
        refine gor hn ?_
        refine qn509 _ _ ?_
        refine goc hn ?_
        refine bselM h (fun hb20 h => ?_) (fun hb20 h => ?_)
        · refine COk.seqQ fun Q511 qn511 qx511 qr511 => ?_
          refine gor hn ?_
          refine qn511 _ _ ?_
          refine got hn ?_
          refine qr386 _ _ ?_
          refine qr258 _ _ ?_
          obtain rfl := Option.some.inj h
          exact ⟨[], _, rfl, (by repeat (first | exact trivial | exact rfl | (refine And.intro ?_ ?_))), trivial, rfl, rfl, rfl, rfl, rfl⟩
        · refine gok hn ?_
          refine qn386 _ _ ?_
          refine qn258 _ _ ?_
          refine COk.seqQ fun Q512 qn512 qx512 qr512 => ?_
          refine gor hn ?_
          refine qn512 _ _ ?_
          refine got hn ?_
          obtain rfl := Option.some.inj h
          exact ⟨[], _, rfl, (by repeat (first | exact trivial | exact rfl | (refine And.intro ?_ ?_))), trivial, rfl, rfl, rfl, rfl, rfl⟩
end Go.Proofs.Ytioalgofaiideaa
