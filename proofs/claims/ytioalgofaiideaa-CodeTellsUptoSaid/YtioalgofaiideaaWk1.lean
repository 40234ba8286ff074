/- Walks after the mirrors. Printed by mir.py. -/
import Derived.Test.YtioalgofaiideaaMir
import Derived.Test.YtioalgofaiideaaYnew
namespace Go.Proofs.Ytioalgofaiideaa
open Go.RowKit
set_option linter.unusedVariables false
/- qcref1.Name -/
set_option maxRecDepth 100000 in
set_option maxHeartbeats 1000000 in
theorem qcref1_Name_ok (N : Nat) (a0 : ByteArray) (r : Bool) (h : qcref1_Name N a0 = some r) : Spec Try.prog 64 [] [.str a0] (.bool r) [] [] := by
  refine Spec.of tabOk Try.func64 rfl Try.ntmps64 (by kernel_rfl) rfl rfl rfl fun Γ hn => ?_
  unfold qcref1_Name at h
  refine COk.seqQ fun Q47 qn47 qx47 qr47 => ?_
  refine gor hn ?_
  refine qn47 _ _ ?_
  refine COk.seqQ fun Q48 qn48 qx48 qr48 => ?_
  refine COk.seqQ fun Q49 qn49 qx49 qr49 => ?_
  refine gor hn ?_
  intro hl1
  refine qn49 _ _ ?_
  refine COk.rng 5 rfl (fun hrn => ?_)
  obtain ⟨o3, h4, h⟩ := bindM h
  refine COk.joinR (ι := { s : Unit // o3 = Ctl.next s }) (fun s => [(0, .str a0)]) (fun s => []) (fun Q72 qn72 qx72 qr72 => ?_) (by intro s; rw [hn]; rfl) ?_
  · refine COk.blkQ fun Q73 qn73 qe73 qx73 qr73 => ?_
    refine COk.loopQ (ι := { q : (Nat × Nat) // q.1 = ((a0.size : Int) - (q.2 : Int)).toNat ∧ qcref1_Name_l1 N a0 q.1 q.2 = some o3 }) (fun q => [(0, .str a0), (5, .int (a0.size : Int)), (6, .int (q.1.2 : Int))]) (fun q => []) (fun q => q.1.1) ⟨(((a0.size : Int) - ((0 : Nat) : Int)).toNat, 0), rfl, h4⟩ [] ⟨⟨rfl, rfl, rfl, trivial⟩, trivial, rfl, rfl⟩ (by intro q; rw [hn]; rfl) ?_
    rintro ⟨⟨n_, k2⟩, hd6, h4⟩ Q74 qn74 qx74 qr74
    replace hd6 : n_ = ((a0.size : Int) - (k2 : Int)).toNat := hd6
    rcases n_ with _ | n7
    · have hlt10 := upNil hd6
      replace h4 := (qcref1_Name_l1.eq_1 _ _ _).symm.trans h4
      refine COk.seqQ fun Q75 qn75 qx75 qr75 => ?_
      refine gor hn ?_
      refine qn75 _ _ ?_
      refine COk.seqQ fun Q76 qn76 qx76 qr76 => ?_
      refine goc hn ?_
      refine bselF hlt10 ?_
      refine goe hn ?_
      refine qx76 _ _ _ ?_
      refine qx74 _ _ _ ?_
      refine qe73 _ _ ?_
      refine qn72 _ _ ?_
      obtain rfl := Option.some.inj h4
      refine EOk.done ?_
      exact ⟨⟨_, rfl⟩, [], trivial, ⟨⟨rfl, trivial⟩, trivial, rfl, rfl⟩⟩
    · obtain ⟨hd2, hlt10⟩ := upCons hd6
      replace h4 := (qcref1_Name_l1.eq_2 _ _ _ _).symm.trans h4
      refine COk.seqQ fun Q77 qn77 qx77 qr77 => ?_
      refine gor hn ?_
      refine qn77 _ _ ?_
      refine COk.seqQ fun Q78 qn78 qx78 qr78 => ?_
      refine goc hn ?_
      refine bselT hlt10 ?_
      refine gok hn ?_
      refine qn78 _ _ ?_
      refine COk.seqQ fun Q79 qn79 qx79 qr79 => ?_
      refine COk.blkQ fun Q86 qn86 qe86 qx86 qr86 => ?_
      refine COk.seqQ fun Q87 qn87 qx87 qr87 => ?_
      refine gor hn ?_
      refine qn87 _ _ ?_
      refine COk.seqQ fun Q88 qn88 qx88 qr88 => ?_
      obtain ⟨o13, h12, h4⟩ := bindM h4
      refine COk.joinR (ι := { s : Bool // o13 = s }) (fun s => [(0, .str a0), (5, .int (a0.size : Int)), (6, .int (k2 : Int)), (18, .bool s.1)]) (fun s => []) (fun Q89 qn89 qx89 qr89 => ?_) (by intro s; rw [hn]; rfl) ?_
      · refine gor hn ?_
        obtain ⟨u14, hx15, h12⟩ := bindM h12
        refine byM hx15 ?_
        refine And.intro rfl ?_
        refine bselM h12 (fun hb16 h12 => ?_) (fun hb16 h12 => ?_)
        · refine bselT hb16 ?_
          refine bselT hb16 ?_
          refine bselT hb16 ?_
          refine bselT hb16 ?_
          refine qn89 _ _ ?_
          obtain rfl := Option.some.inj h12
          refine EOk.done ?_
          exact ⟨⟨_, rfl⟩, [], trivial, ⟨⟨rfl, rfl, rfl, rfl, trivial⟩, trivial, rfl, rfl⟩⟩
        · refine bselF hb16 ?_
          refine bselF hb16 ?_
          obtain ⟨u17, hx18, h12⟩ := bindM h12
          refine byM hx18 ?_
          refine bselF hb16 ?_
          refine And.intro rfl ?_
          refine bselF hb16 ?_
          refine qn89 _ _ ?_
          obtain rfl := Option.some.inj h12
          refine EOk.done ?_
          exact ⟨⟨_, rfl⟩, [], trivial, ⟨⟨rfl, rfl, rfl, rfl, trivial⟩, trivial, rfl, rfl⟩⟩
      rintro ⟨v11, hv_⟩
      replace hv_ := hv_.symm
      subst hv_
      refine qn88 _ _ ?_
      refine goc hn ?_
      refine bselM h4 (fun hb19 h4 => ?_) (fun hb19 h4 => ?_)
      · refine COk.seqQ fun Q90 qn90 qx90 qr90 => ?_
        refine gor hn ?_
        refine qn90 _ _ ?_
        refine got hn ?_
        refine qr86 _ _ ?_
        refine qr79 _ _ ?_
        refine qr74 _ _ ?_
        refine qr73 _ _ ?_
        refine qr72 _ _ ?_
        refine qr48 _ _ ?_
        obtain rfl := Option.some.inj h4
        obtain rfl := Option.some.inj h
        exact ⟨[], _, rfl, (by repeat (first | exact trivial | exact rfl | (refine And.intro ?_ ?_))), trivial, rfl, rfl, rfl, rfl, rfl⟩
      · refine gok hn ?_
        refine qn86 _ _ ?_
        refine qn79 _ _ ?_
        refine gor hn ?_
        refine Or.inl (And.intro (inrU hlt10 hrn) ?_)
        refine qn74 _ _ ?_
        refine EOk.done ?_
        exact ⟨⟨(n7, k2 + 1), hd2, h4⟩, [], by show n7 < n7 + 1; omega, ⟨⟨rfl, rfl, rfl, trivial⟩, trivial, rfl, rfl⟩⟩
  rintro ⟨⟨⟩, rfl⟩
  refine qn48 _ _ ?_
  refine COk.seqQ fun Q91 qn91 qx91 qr91 => ?_
  obtain ⟨o22, h21, h⟩ := bindM h
  refine COk.joinR (ι := { s : Bool // o22 = s }) (fun s => [(2, .bool s.1)]) (fun s => []) (fun Q92 qn92 qx92 qr92 => ?_) (by intro s; rw [hn]; rfl) ?_
  · refine gor hn ?_
    intro hl23
    refine bselM h21 (fun hb24 h21 => ?_) (fun hb24 h21 => ?_)
    · refine bselT hb24 ?_
      intro hl25
      refine bselT hb24 ?_
      refine bselT hb24 ?_
      refine qn92 _ _ ?_
      obtain rfl := Option.some.inj h21
      refine EOk.done ?_
      exact ⟨⟨_, rfl⟩, [], trivial, ⟨⟨rfl, trivial⟩, trivial, rfl, rfl⟩⟩
    · refine bselF hb24 ?_
      refine bselF hb24 ?_
      refine bselF hb24 ?_
      refine qn92 _ _ ?_
      obtain rfl := Option.some.inj h21
      refine EOk.done ?_
      exact ⟨⟨_, rfl⟩, [], trivial, ⟨⟨rfl, trivial⟩, trivial, rfl, rfl⟩⟩
  rintro ⟨v20, hv_⟩
  replace hv_ := hv_.symm
  subst hv_
  refine qn91 _ _ ?_
  refine got hn ?_
  obtain rfl := Option.some.inj h
  exact ⟨[], _, rfl, (by repeat (first | exact trivial | exact rfl | (refine And.intro ?_ ?_))), trivial, rfl, rfl, rfl, rfl, rfl⟩

/- qcref1.Ups -/
set_option maxRecDepth 100000 in
set_option maxHeartbeats 1000000 in
theorem qcref1_Ups_ok (N : Nat) (a0 : Wd) (a1 : Int) (r : (List Int)) (h : qcref1_Ups N a0 a1 = some r) : Spec Try.prog 71 [] [.agg (eWd a0), .int a1] (.own 0) [(0, .row 1 (List.map eInt r) 3)] [0] := by
  refine Spec.of tabOk Try.func71 rfl Try.ntmps71 (by kernel_rfl) rfl rfl rfl fun Γ hn => ?_
  unfold qcref1_Ups at h
  refine COk.seqQ fun Q43 qn43 qx43 qr43 => ?_
  refine gor hn ?_
  refine qn43 _ _ ?_
  refine COk.seqQ fun Q44 qn44 qx44 qr44 => ?_
  refine gor hn ?_
  refine qn44 _ _ ?_
  refine COk.seqQ fun Q45 qn45 qx45 qr45 => ?_
  refine COk.nilrow 5 205 1 3 rfl rfl rfl ?_
  obtain ⟨o7, h8, h⟩ := bindM h
  refine COk.joinR (ι := { s : (List Int) // o7 = s }) (fun s => [(5, .own 205)]) (fun s => [(205, .row 1 (List.map eInt s.1) 3)]) (fun Q74 qn74 qx74 qr74 => ?_) (by intro s; rw [hn]; rfl) ?_
  · refine COk.blkQ fun Q75 qn75 qe75 qx75 qr75 => ?_
    refine COk.loopQ (ι := { q : (Nat × Int × (List Int)) // qcref1_Ups_l1 N a0 q.1 q.2.1 q.2.2 = some o7 }) (fun q => [(1, .int q.1.2.1), (2, .ptr 2 0), (5, .own 205)]) (fun q => [(2, .box (eWd a0) 55), (205, .row 1 (List.map eInt q.1.2.2) 3)]) (fun q => q.1.1) ⟨(N, a1, ([] : List Int)), h8⟩ [] ⟨⟨rfl, rfl, rfl, trivial⟩, ⟨rfl, rfl, trivial⟩, rfl, rfl⟩ (by intro q; rw [hn]; rfl) ?_
    rintro ⟨⟨n_, v2, v3⟩, h8⟩ Q76 qn76 qx76 qr76
    rcases n_ with _ | n11
    · rw [qcref1_Ups_l1.eq_1] at h8
      cases h8
    · replace h8 := (qcref1_Ups_l1.eq_2 _ _ _ _ _).symm.trans h8
      refine COk.seqQ fun Q77 qn77 qx77 qr77 => ?_
      refine COk.seqQ fun Q78 qn78 qx78 qr78 => ?_
      obtain ⟨o14, h13, h8⟩ := bindM h8
      refine COk.joinR (ι := { s : Bool // o14 = s }) (fun s => [(1, .int v2), (2, .ptr 2 0), (5, .own 205), (22, .bool s.1)]) (fun s => [(2, .box (eWd a0) 55), (205, .row 1 (List.map eInt v3) 3)]) (fun Q79 qn79 qx79 qr79 => ?_) (by intro s; rw [hn]; rfl) ?_
      · refine gor hn ?_
        refine bselM h13 (fun hb15 h13 => ?_) (fun hb15 h13 => ?_)
        · refine bselT hb15 ?_
          refine bselT hb15 ?_
          refine bselT hb15 ?_
          refine lenM (fun hl16 => ?_)
          refine bselT hb15 ?_
          refine bselT hb15 ?_
          refine bselM h13 (fun hb17 h13 => ?_) (fun hb17 h13 => ?_)
          · refine bselT hb17 ?_
            refine lenM (fun hl18 => ?_)
            refine bselT hb17 ?_
            refine bselT hb17 ?_
            refine bselT hb17 ?_
            refine lenM (fun hl19 => ?_)
            refine bselT hb17 ?_
            refine bselT hb17 ?_
            refine qn79 _ _ ?_
            obtain rfl := Option.some.inj h13
            refine EOk.done ?_
            exact ⟨⟨_, rfl⟩, [], trivial, ⟨⟨rfl, rfl, rfl, rfl, trivial⟩, ⟨rfl, rfl, trivial⟩, rfl, rfl⟩⟩
          · refine bselF hb17 ?_
            refine bselF hb17 ?_
            refine bselF hb17 ?_
            refine bselF hb17 ?_
            refine bselF hb17 ?_
            refine bselF hb17 ?_
            refine qn79 _ _ ?_
            obtain rfl := Option.some.inj h13
            refine EOk.done ?_
            exact ⟨⟨_, rfl⟩, [], trivial, ⟨⟨rfl, rfl, rfl, rfl, trivial⟩, ⟨rfl, rfl, trivial⟩, rfl, rfl⟩⟩
        · refine bselF hb15 ?_
          refine bselF hb15 ?_
          refine bselF hb15 ?_
          refine bselF hb15 ?_
          refine bselF hb15 ?_
          refine qn79 _ _ ?_
          obtain rfl := Option.some.inj h13
          refine EOk.done ?_
          exact ⟨⟨_, rfl⟩, [], trivial, ⟨⟨rfl, rfl, rfl, rfl, trivial⟩, ⟨rfl, rfl, trivial⟩, rfl, rfl⟩⟩
      rintro ⟨v12, hv_⟩
      replace hv_ := hv_.symm
      subst hv_
      refine qn78 _ _ ?_
      refine goc hn ?_
      refine bselM h8 (fun hb20 h8 => ?_) (fun hb20 h8 => ?_)
      · refine gok hn ?_
        refine qn77 _ _ ?_
        refine COk.blkQ fun Q82 qn82 qe82 qx82 qr82 => ?_
        refine COk.seqQ fun Q83 qn83 qx83 qr83 => ?_
        refine gor hn ?_
        refine Exists.intro (List.map eInt [v2]) (And.intro (by repeat (first | exact trivial | exact rfl | (refine And.intro ?_ ?_))) ?_)
        obtain ⟨hg21, h8⟩ := guardM h8
        refine appM (l2 := [v2]) hg21 (leLs_refl _) ?_
        refine qn83 _ _ ?_
        refine gor hn ?_
        obtain ⟨x22, hx23, h8⟩ := bindM h8
        refine idxM hx23 ?_
        refine qn82 _ _ ?_
        refine qn76 _ _ ?_
        refine EOk.done ?_
        exact ⟨⟨(n11, x22.super, (v3 ++ [v2])), h8⟩, [(205, 26)], by show n11 < n11 + 1; omega, ⟨⟨rfl, rfl, rfl, trivial⟩, ⟨rfl, rfl, trivial⟩, rfl, rfl⟩⟩
      · refine goe hn ?_
        refine qx77 _ _ _ ?_
        refine qx76 _ _ _ ?_
        refine qe75 _ _ ?_
        refine qn74 _ _ ?_
        obtain rfl := Option.some.inj h8
        refine EOk.done ?_
        exact ⟨⟨_, rfl⟩, [], trivial, ⟨⟨rfl, trivial⟩, ⟨rfl, trivial⟩, rfl, rfl⟩⟩
  rintro ⟨v6, hv_⟩
  replace hv_ := hv_.symm
  subst hv_
  refine qn45 _ _ ?_
  refine COk.seqQ fun Q84 qn84 qx84 qr84 => ?_
  refine gor hn ?_
  refine qn84 _ _ ?_
  refine got hn ?_
  obtain rfl := Option.some.inj h
  exact ⟨[(0, 205)], _, rfl, (by repeat (first | exact trivial | exact rfl | (refine And.intro ?_ ?_))), ⟨rfl, trivial⟩, rfl, rfl, rfl, rfl, rfl⟩

/- qcref1.Slots -/
set_option maxRecDepth 100000 in
set_option maxHeartbeats 1000000 in
theorem qcref1_Slots_ok (N : Nat) (a0 : Wd) (a1 : Int) (r : Int) (h : qcref1_Slots N a0 a1 = some r) : Spec Try.prog 65 [] [.agg (eWd a0), .int a1] (.int r) [] [] := by
  refine Spec.of tabOk Try.func65 rfl Try.ntmps65 (by kernel_rfl) rfl rfl rfl fun Γ hn => ?_
  unfold qcref1_Slots at h
  refine COk.seqQ fun Q39 qn39 qx39 qr39 => ?_
  refine gor hn ?_
  refine qn39 _ _ ?_
  refine COk.seqQ fun Q40 qn40 qx40 qr40 => ?_
  refine gor hn ?_
  refine qn40 _ _ ?_
  refine COk.seqQ fun Q41 qn41 qx41 qr41 => ?_
  refine COk.seqQ fun Q42 qn42 qx42 qr42 => ?_
  refine gor hn ?_
  obtain ⟨r1, hr2, h⟩ := bindM h
  show CallOk Try.prog _ _ _ _
  refine CallOk.as ((qcref1_Ups_ok N a0 a1 r1 hr2).sw 0 10) (by repeat (first | exact trivial | exact rfl | (refine And.intro ?_ ?_))) trivial rfl ?_
  refine lenM (fun hl3 => ?_)
  refine qn42 _ _ ?_
  obtain ⟨o8, h9, h⟩ := bindM h
  refine COk.joinR (ι := { s : Int // o8 = s }) (fun s => [(5, .int s.1)]) (fun s => []) (fun Q64 qn64 qx64 qr64 => ?_) (by intro s; rw [hn]; rfl) ?_
  · refine COk.blkQ fun Q65 qn65 qe65 qx65 qr65 => ?_
    refine COk.loopQ (ι := { q : ((List Int) × Nat × Int) // q.1 = r1.drop q.2.1 ∧ qcref1_Slots_l1 N a0 r1 q.1 q.2.1 q.2.2 = some o8 }) (fun q => [(2, .ptr 2 0), (5, .int q.1.2.2), (10, .own 10), (11, .int (r1.length : Int)), (12, .int (q.1.2.1 : Int))]) (fun q => [(2, .box (eWd a0) 55), (10, .row 1 (List.map eInt r1) 3)]) (fun q => q.1.1.length) ⟨(r1, 0, (0 : Int)), rfl, h9⟩ [] ⟨⟨rfl, rfl, rfl, rfl, rfl, trivial⟩, ⟨rfl, rfl, trivial⟩, rfl, rfl⟩ (by intro q; rw [hn]; rfl) ?_
    rintro ⟨⟨rest_, k4, v5⟩, hd11, h9⟩ Q66 qn66 qx66 qr66
    replace hd11 : rest_ = r1.drop k4 := hd11
    rcases rest_ with _ | ⟨x13, rest10⟩
    · have hlt15 := restNil hd11
      replace h9 := (qcref1_Slots_l1.eq_1 _ _ _ _ _).symm.trans h9
      refine COk.seqQ fun Q67 qn67 qx67 qr67 => ?_
      refine gor hn ?_
      refine qn67 _ _ ?_
      refine COk.seqQ fun Q68 qn68 qx68 qr68 => ?_
      refine goc hn ?_
      refine bselF hlt15 ?_
      refine goe hn ?_
      refine qx68 _ _ _ ?_
      refine qx66 _ _ _ ?_
      refine qe65 _ _ ?_
      refine qn64 _ _ ?_
      obtain rfl := Option.some.inj h9
      refine EOk.done ?_
      exact ⟨⟨_, rfl⟩, [], trivial, ⟨⟨rfl, trivial⟩, trivial, rfl, rfl⟩⟩
    · obtain ⟨hx14, hd2, hlt15⟩ := restCons hd11
      replace h9 := (qcref1_Slots_l1.eq_2 _ _ _ _ _ _ _).symm.trans h9
      refine COk.seqQ fun Q69 qn69 qx69 qr69 => ?_
      refine gor hn ?_
      refine qn69 _ _ ?_
      refine COk.seqQ fun Q70 qn70 qx70 qr70 => ?_
      refine goc hn ?_
      refine bselT hlt15 ?_
      refine gok hn ?_
      refine qn70 _ _ ?_
      refine COk.seqQ fun Q71 qn71 qx71 qr71 => ?_
      refine COk.blkQ fun Q74 qn74 qe74 qx74 qr74 => ?_
      refine COk.seqQ fun Q75 qn75 qx75 qr75 => ?_
      refine gor hn ?_
      obtain ⟨x16, hx17, h9⟩ := bindM h9
      refine ownM hx17 ?_
      refine ldM (nthO_some hx17).2 ?_
      refine qn75 _ _ ?_
      refine gor hn ?_
      obtain ⟨x18, hx19, h9⟩ := bindM h9
      refine idxM hx19 ?_
      refine Or.inr ?_
      refine qn74 _ _ ?_
      refine qn71 _ _ ?_
      refine COk.sub (ts2 := [(2, .ptr 2 0), (5, .int (wr (v5 + x18.slots))), (10, .own 10), (11, .int (r1.length : Int)), (12, .int (k4 : Int))]) (os2 := [(2, .box (eWd a0) 55), (10, .row 1 (List.map eInt r1) 3)]) [] ⟨⟨rfl, rfl, rfl, rfl, rfl, trivial⟩, ⟨rfl, rfl, trivial⟩, rfl, rfl⟩ (by rw [hn]; rfl) ?_
      refine gor hn ?_
      refine Or.inl (And.intro (inrK hx14 hl3) ?_)
      refine qn66 _ _ ?_
      refine EOk.done ?_
      exact ⟨⟨(rest10, k4 + 1, (wr (v5 + x18.slots))), hd2, h9⟩, [], by show rest10.length < rest10.length + 1; omega, ⟨⟨rfl, rfl, rfl, rfl, rfl, trivial⟩, ⟨rfl, rfl, trivial⟩, rfl, rfl⟩⟩
  rintro ⟨v7, hv_⟩
  replace hv_ := hv_.symm
  subst hv_
  refine qn41 _ _ ?_
  refine COk.seqQ fun Q76 qn76 qx76 qr76 => ?_
  refine gor hn ?_
  refine qn76 _ _ ?_
  refine got hn ?_
  obtain rfl := Option.some.inj h
  exact ⟨[], _, rfl, (by repeat (first | exact trivial | exact rfl | (refine And.intro ?_ ?_))), trivial, rfl, rfl, rfl, rfl, rfl⟩

/- qcref1.Numbers -/
set_option maxRecDepth 100000 in
set_option maxHeartbeats 1000000 in
theorem qcref1_Numbers_ok (N : Nat) (a0 : Wd) (a1 : Int) (a2 : Me) (a3 : Ins) (r : Int) (h : qcref1_Numbers N a0 a1 a2 a3 = some r) : Spec Try.prog 74 [] [.agg (eWd a0), .int a1, .agg (eMe a2), .agg (eIns a3)] (.int r) [] [] := by
  refine Spec.of tabOk Try.func74 rfl Try.ntmps74 (by kernel_rfl) rfl rfl rfl fun Γ hn => ?_
  unfold qcref1_Numbers at h
  refine COk.seqQ fun Q1420 qn1420 qx1420 qr1420 => ?_
  refine gor hn ?_
  refine qn1420 _ _ ?_
  refine COk.seqQ fun Q1421 qn1421 qx1421 qr1421 => ?_
  refine gor hn ?_
  refine qn1421 _ _ ?_
  refine COk.seqQ fun Q1422 qn1422 qx1422 qr1422 => ?_
  refine COk.seqQ fun Q1423 qn1423 qx1423 qr1423 => ?_
  refine gor hn ?_
  refine qn1423 _ _ ?_
  refine COk.blkQ fun Q2789 qn2789 qe2789 qx2789 qr2789 => ?_
  refine COk.seqQ fun Q2790 qn2790 qx2790 qr2790 => ?_
  refine COk.seqQ fun Q2791 qn2791 qx2791 qr2791 => ?_
  refine gor hn ?_
  refine qn2791 _ _ ?_
  obtain ⟨o3, h2, h⟩ := bindM h
  refine COk.joinR (ι := { s : Bool // o3 = s }) (fun s => [(1, .int a1), (4, .ptr 4 0), (6, .ptr 6 0), (7, .ptr 7 0), (9, .int (0 : Int)), (10, .int (0 : Int)), (12, .int a3.op), (13, .bool s.1)]) (fun s => [(4, .box (eWd a0) 55), (6, .box (eMe a2) 74), (7, .box (eIns a3) 81)]) (fun Q2792 qn2792 qx2792 qr2792 => ?_) (by intro s; rw [hn]; rfl) ?_
  · refine goc hn ?_
    refine bselM h2 (fun hb4 h2 => ?_) (fun hb4 h2 => ?_)
    · refine gok hn ?_
      refine qn2792 _ _ ?_
      obtain rfl := Option.some.inj h2
      refine EOk.done ?_
      exact ⟨⟨_, rfl⟩, [], trivial, ⟨⟨rfl, rfl, rfl, rfl, rfl, rfl, rfl, rfl, trivial⟩, ⟨rfl, rfl, rfl, trivial⟩, rfl, rfl⟩⟩
    · refine COk.seqQ fun Q2793 qn2793 qx2793 qr2793 => ?_
      refine gor hn ?_
      refine qn2793 _ _ ?_
      obtain ⟨o7, h6, h2⟩ := bindM h2
      refine COk.joinR (ι := { s : Bool // o7 = s }) (fun s => [(1, .int a1), (4, .ptr 4 0), (6, .ptr 6 0), (7, .ptr 7 0), (9, .int (0 : Int)), (10, .int (0 : Int)), (12, .int a3.op), (13, .bool s.1)]) (fun s => [(4, .box (eWd a0) 55), (6, .box (eMe a2) 74), (7, .box (eIns a3) 81)]) (fun Q2794 qn2794 qx2794 qr2794 => ?_) (by intro s; rw [hn]; rfl) ?_
      · refine goc hn ?_
        refine bselM h6 (fun hb8 h6 => ?_) (fun hb8 h6 => ?_)
        · refine gok hn ?_
          refine qn2794 _ _ ?_
          obtain rfl := Option.some.inj h6
          refine EOk.done ?_
          exact ⟨⟨_, rfl⟩, [], trivial, ⟨⟨rfl, rfl, rfl, rfl, rfl, rfl, rfl, rfl, trivial⟩, ⟨rfl, rfl, rfl, trivial⟩, rfl, rfl⟩⟩
        · refine COk.seqQ fun Q2795 qn2795 qx2795 qr2795 => ?_
          refine gor hn ?_
          refine qn2795 _ _ ?_
          obtain ⟨o11, h10, h6⟩ := bindM h6
          refine COk.joinR (ι := { s : Bool // o11 = s }) (fun s => [(1, .int a1), (4, .ptr 4 0), (6, .ptr 6 0), (7, .ptr 7 0), (9, .int (0 : Int)), (10, .int (0 : Int)), (12, .int a3.op), (13, .bool s.1)]) (fun s => [(4, .box (eWd a0) 55), (6, .box (eMe a2) 74), (7, .box (eIns a3) 81)]) (fun Q2796 qn2796 qx2796 qr2796 => ?_) (by intro s; rw [hn]; rfl) ?_
          · refine goc hn ?_
            refine bselM h10 (fun hb12 h10 => ?_) (fun hb12 h10 => ?_)
            · refine gok hn ?_
              refine qn2796 _ _ ?_
              obtain rfl := Option.some.inj h10
              refine EOk.done ?_
              exact ⟨⟨_, rfl⟩, [], trivial, ⟨⟨rfl, rfl, rfl, rfl, rfl, rfl, rfl, rfl, trivial⟩, ⟨rfl, rfl, rfl, trivial⟩, rfl, rfl⟩⟩
            · refine COk.seqQ fun Q2797 qn2797 qx2797 qr2797 => ?_
              refine gor hn ?_
              refine qn2797 _ _ ?_
              obtain ⟨o15, h14, h10⟩ := bindM h10
              refine COk.joinR (ι := { s : Bool // o15 = s }) (fun s => [(1, .int a1), (4, .ptr 4 0), (6, .ptr 6 0), (7, .ptr 7 0), (9, .int (0 : Int)), (10, .int (0 : Int)), (12, .int a3.op), (13, .bool s.1)]) (fun s => [(4, .box (eWd a0) 55), (6, .box (eMe a2) 74), (7, .box (eIns a3) 81)]) (fun Q2798 qn2798 qx2798 qr2798 => ?_) (by intro s; rw [hn]; rfl) ?_
              · refine goc hn ?_
                refine bselM h14 (fun hb16 h14 => ?_) (fun hb16 h14 => ?_)
                · refine gok hn ?_
                  refine qn2798 _ _ ?_
                  obtain rfl := Option.some.inj h14
                  refine EOk.done ?_
                  exact ⟨⟨_, rfl⟩, [], trivial, ⟨⟨rfl, rfl, rfl, rfl, rfl, rfl, rfl, rfl, trivial⟩, ⟨rfl, rfl, rfl, trivial⟩, rfl, rfl⟩⟩
                · refine COk.seqQ fun Q2799 qn2799 qx2799 qr2799 => ?_
                  refine COk.sub (ts2 := [(1, .int a1), (4, .ptr 4 0), (6, .ptr 6 0), (7, .ptr 7 0), (9, .int (0 : Int)), (10, .int (0 : Int)), (12, .int a3.op)]) (os2 := [(4, .box (eWd a0) 55), (6, .box (eMe a2) 74), (7, .box (eIns a3) 81)]) [] ⟨⟨rfl, rfl, rfl, rfl, rfl, rfl, rfl, trivial⟩, ⟨rfl, rfl, rfl, trivial⟩, rfl, rfl⟩ (by rw [hn]; rfl) ?_
                  refine gor hn ?_
                  refine qn2799 _ _ ?_
                  obtain ⟨o19, h18, h14⟩ := bindM h14
                  refine COk.joinR (ι := { s : Bool // o19 = s }) (fun s => [(1, .int a1), (4, .ptr 4 0), (6, .ptr 6 0), (7, .ptr 7 0), (9, .int (0 : Int)), (10, .int (0 : Int)), (12, .int a3.op), (13, .bool s.1)]) (fun s => [(4, .box (eWd a0) 55), (6, .box (eMe a2) 74), (7, .box (eIns a3) 81)]) (fun Q2800 qn2800 qx2800 qr2800 => ?_) (by intro s; rw [hn]; rfl) ?_
                  · refine goc hn ?_
                    refine bselM h18 (fun hb20 h18 => ?_) (fun hb20 h18 => ?_)
                    · refine gok hn ?_
                      refine qn2800 _ _ ?_
                      obtain rfl := Option.some.inj h18
                      refine EOk.done ?_
                      exact ⟨⟨_, rfl⟩, [], trivial, ⟨⟨rfl, rfl, rfl, rfl, rfl, rfl, rfl, rfl, trivial⟩, ⟨rfl, rfl, rfl, trivial⟩, rfl, rfl⟩⟩
                    · refine COk.seqQ fun Q2801 qn2801 qx2801 qr2801 => ?_
                      refine gor hn ?_
                      refine qn2801 _ _ ?_
                      obtain ⟨o23, h22, h18⟩ := bindM h18
                      refine COk.joinR (ι := { s : Bool // o23 = s }) (fun s => [(1, .int a1), (4, .ptr 4 0), (6, .ptr 6 0), (7, .ptr 7 0), (9, .int (0 : Int)), (10, .int (0 : Int)), (12, .int a3.op), (13, .bool s.1)]) (fun s => [(4, .box (eWd a0) 55), (6, .box (eMe a2) 74), (7, .box (eIns a3) 81)]) (fun Q2802 qn2802 qx2802 qr2802 => ?_) (by intro s; rw [hn]; rfl) ?_
                      · refine goc hn ?_
                        refine bselM h22 (fun hb24 h22 => ?_) (fun hb24 h22 => ?_)
                        · refine gok hn ?_
                          refine qn2802 _ _ ?_
                          obtain rfl := Option.some.inj h22
                          refine EOk.done ?_
                          exact ⟨⟨_, rfl⟩, [], trivial, ⟨⟨rfl, rfl, rfl, rfl, rfl, rfl, rfl, rfl, trivial⟩, ⟨rfl, rfl, rfl, trivial⟩, rfl, rfl⟩⟩
                        · refine gor hn ?_
                          refine qn2802 _ _ ?_
                          obtain rfl := Option.some.inj h22
                          refine EOk.done ?_
                          exact ⟨⟨_, rfl⟩, [], trivial, ⟨⟨rfl, rfl, rfl, rfl, rfl, rfl, rfl, rfl, trivial⟩, ⟨rfl, rfl, rfl, trivial⟩, rfl, rfl⟩⟩
                      rintro ⟨v21, hv_⟩
                      replace hv_ := hv_.symm
                      subst hv_
                      refine qn2800 _ _ ?_
                      obtain rfl := Option.some.inj h18
                      refine EOk.done ?_
                      exact ⟨⟨_, rfl⟩, [], trivial, ⟨⟨rfl, rfl, rfl, rfl, rfl, rfl, rfl, rfl, trivial⟩, ⟨rfl, rfl, rfl, trivial⟩, rfl, rfl⟩⟩
                  rintro ⟨v17, hv_⟩
                  replace hv_ := hv_.symm
                  subst hv_
                  refine qn2798 _ _ ?_
                  obtain rfl := Option.some.inj h14
                  refine EOk.done ?_
                  exact ⟨⟨_, rfl⟩, [], trivial, ⟨⟨rfl, rfl, rfl, rfl, rfl, rfl, rfl, rfl, trivial⟩, ⟨rfl, rfl, rfl, trivial⟩, rfl, rfl⟩⟩
              rintro ⟨v13, hv_⟩
              replace hv_ := hv_.symm
              subst hv_
              refine qn2796 _ _ ?_
              obtain rfl := Option.some.inj h10
              refine EOk.done ?_
              exact ⟨⟨_, rfl⟩, [], trivial, ⟨⟨rfl, rfl, rfl, rfl, rfl, rfl, rfl, rfl, trivial⟩, ⟨rfl, rfl, rfl, trivial⟩, rfl, rfl⟩⟩
          rintro ⟨v9, hv_⟩
          replace hv_ := hv_.symm
          subst hv_
          refine qn2794 _ _ ?_
          obtain rfl := Option.some.inj h6
          refine EOk.done ?_
          exact ⟨⟨_, rfl⟩, [], trivial, ⟨⟨rfl, rfl, rfl, rfl, rfl, rfl, rfl, rfl, trivial⟩, ⟨rfl, rfl, rfl, trivial⟩, rfl, rfl⟩⟩
      rintro ⟨v5, hv_⟩
      replace hv_ := hv_.symm
      subst hv_
      refine qn2792 _ _ ?_
      obtain rfl := Option.some.inj h2
      refine EOk.done ?_
      exact ⟨⟨_, rfl⟩, [], trivial, ⟨⟨rfl, rfl, rfl, rfl, rfl, rfl, rfl, rfl, trivial⟩, ⟨rfl, rfl, rfl, trivial⟩, rfl, rfl⟩⟩
  rintro ⟨v1, hv_⟩
  replace hv_ := hv_.symm
  subst hv_
  refine qn2790 _ _ ?_
  obtain ⟨o28, h27, h⟩ := bindM h
  refine COk.joinR (ι := { s : (Int × Int) // o28 = Ctl.next s }) (fun s => [(7, .ptr 7 0), (9, .int s.1.1), (10, .int s.1.2)]) (fun s => [(7, .box (eIns a3) 81)]) (fun Q2803 qn2803 qx2803 qr2803 => ?_) (by intro s; rw [hn]; rfl) ?_
  · refine goc hn ?_
    refine bselM h27 (fun hb29 h27 => ?_) (fun hb29 h27 => ?_)
    · refine gok hn ?_
      refine qn2803 _ _ ?_
      obtain rfl := Option.some.inj h27
      refine EOk.done ?_
      exact ⟨⟨_, rfl⟩, [], trivial, ⟨⟨rfl, rfl, rfl, trivial⟩, ⟨rfl, trivial⟩, rfl, rfl⟩⟩
    · refine COk.seqQ fun Q2804 qn2804 qx2804 qr2804 => ?_
      refine gor hn ?_
      refine qn2804 _ _ ?_
      obtain ⟨o33, h32, h27⟩ := bindM h27
      refine COk.joinR (ι := { s : (Int × Int) // o33 = Ctl.next s }) (fun s => [(7, .ptr 7 0), (9, .int s.1.1), (10, .int s.1.2)]) (fun s => [(7, .box (eIns a3) 81)]) (fun Q2805 qn2805 qx2805 qr2805 => ?_) (by intro s; rw [hn]; rfl) ?_
      · refine goc hn ?_
        refine bselM h32 (fun hb34 h32 => ?_) (fun hb34 h32 => ?_)
        · refine gor hn ?_
          refine Or.inr ?_
          refine qn2805 _ _ ?_
          obtain rfl := Option.some.inj h32
          refine EOk.done ?_
          exact ⟨⟨_, rfl⟩, [], trivial, ⟨⟨rfl, rfl, rfl, trivial⟩, ⟨rfl, trivial⟩, rfl, rfl⟩⟩
        · refine COk.seqQ fun Q2806 qn2806 qx2806 qr2806 => ?_
          refine COk.seqQ fun Q2807 qn2807 qx2807 qr2807 => ?_
          refine gor hn ?_
          refine qn2807 _ _ ?_
          obtain ⟨o37, h36, h32⟩ := bindM h32
          refine COk.joinR (ι := { s : Bool // o37 = s }) (fun s => [(1, .int a1), (4, .ptr 4 0), (6, .ptr 6 0), (7, .ptr 7 0), (9, .int (0 : Int)), (12, .int a3.op), (26, .bool s.1)]) (fun s => [(4, .box (eWd a0) 55), (6, .box (eMe a2) 74), (7, .box (eIns a3) 81)]) (fun Q2808 qn2808 qx2808 qr2808 => ?_) (by intro s; rw [hn]; rfl) ?_
          · refine goc hn ?_
            refine bselM h36 (fun hb38 h36 => ?_) (fun hb38 h36 => ?_)
            · refine gok hn ?_
              refine qn2808 _ _ ?_
              obtain rfl := Option.some.inj h36
              refine EOk.done ?_
              exact ⟨⟨_, rfl⟩, [], trivial, ⟨⟨rfl, rfl, rfl, rfl, rfl, rfl, rfl, trivial⟩, ⟨rfl, rfl, rfl, trivial⟩, rfl, rfl⟩⟩
            · refine gor hn ?_
              refine qn2808 _ _ ?_
              obtain rfl := Option.some.inj h36
              refine EOk.done ?_
              exact ⟨⟨_, rfl⟩, [], trivial, ⟨⟨rfl, rfl, rfl, rfl, rfl, rfl, rfl, trivial⟩, ⟨rfl, rfl, rfl, trivial⟩, rfl, rfl⟩⟩
          rintro ⟨v35, hv_⟩
          replace hv_ := hv_.symm
          subst hv_
          refine qn2806 _ _ ?_
          obtain ⟨o42, h41, h32⟩ := bindM h32
          refine COk.joinR (ι := { s : (Int × Int) // o42 = Ctl.next s }) (fun s => [(7, .ptr 7 0), (9, .int s.1.1), (10, .int s.1.2)]) (fun s => [(7, .box (eIns a3) 81)]) (fun Q2809 qn2809 qx2809 qr2809 => ?_) (by intro s; rw [hn]; rfl) ?_
          · refine goc hn ?_
            refine bselM h41 (fun hb43 h41 => ?_) (fun hb43 h41 => ?_)
            · refine gor hn ?_
              refine Or.inr ?_
              refine qn2809 _ _ ?_
              obtain rfl := Option.some.inj h41
              refine EOk.done ?_
              exact ⟨⟨_, rfl⟩, [], trivial, ⟨⟨rfl, rfl, rfl, trivial⟩, ⟨rfl, trivial⟩, rfl, rfl⟩⟩
            · refine COk.seqQ fun Q2810 qn2810 qx2810 qr2810 => ?_
              refine COk.seqQ fun Q2811 qn2811 qx2811 qr2811 => ?_
              refine gor hn ?_
              refine qn2811 _ _ ?_
              obtain ⟨o46, h45, h41⟩ := bindM h41
              refine COk.joinR (ι := { s : Bool // o46 = s }) (fun s => [(1, .int a1), (4, .ptr 4 0), (6, .ptr 6 0), (7, .ptr 7 0), (9, .int (0 : Int)), (12, .int a3.op), (32, .bool s.1)]) (fun s => [(4, .box (eWd a0) 55), (6, .box (eMe a2) 74), (7, .box (eIns a3) 81)]) (fun Q2812 qn2812 qx2812 qr2812 => ?_) (by intro s; rw [hn]; rfl) ?_
              · refine goc hn ?_
                refine bselM h45 (fun hb47 h45 => ?_) (fun hb47 h45 => ?_)
                · refine gok hn ?_
                  refine qn2812 _ _ ?_
                  obtain rfl := Option.some.inj h45
                  refine EOk.done ?_
                  exact ⟨⟨_, rfl⟩, [], trivial, ⟨⟨rfl, rfl, rfl, rfl, rfl, rfl, rfl, trivial⟩, ⟨rfl, rfl, rfl, trivial⟩, rfl, rfl⟩⟩
                · refine gor hn ?_
                  refine qn2812 _ _ ?_
                  obtain rfl := Option.some.inj h45
                  refine EOk.done ?_
                  exact ⟨⟨_, rfl⟩, [], trivial, ⟨⟨rfl, rfl, rfl, rfl, rfl, rfl, rfl, trivial⟩, ⟨rfl, rfl, rfl, trivial⟩, rfl, rfl⟩⟩
              rintro ⟨v44, hv_⟩
              replace hv_ := hv_.symm
              subst hv_
              refine qn2810 _ _ ?_
              obtain ⟨o51, h50, h41⟩ := bindM h41
              refine COk.joinR (ι := { s : (Int × Int) // o51 = Ctl.next s }) (fun s => [(7, .ptr 7 0), (9, .int s.1.1), (10, .int s.1.2)]) (fun s => [(7, .box (eIns a3) 81)]) (fun Q2813 qn2813 qx2813 qr2813 => ?_) (by intro s; rw [hn]; rfl) ?_
              · refine goc hn ?_
                refine bselM h50 (fun hb52 h50 => ?_) (fun hb52 h50 => ?_)
                · refine gor hn ?_
                  obtain ⟨r53, hr54, h50⟩ := bindM h50
                  show CallOk Try.prog _ _ _ _
                  refine CallOk.as (qcref1_Slots_ok N a0 a1 r53 hr54) (by repeat (first | exact trivial | exact rfl | (refine And.intro ?_ ?_))) trivial rfl ?_
                  refine Or.inr ?_
                  refine qn2813 _ _ ?_
                  obtain rfl := Option.some.inj h50
                  refine EOk.done ?_
                  exact ⟨⟨_, rfl⟩, [], trivial, ⟨⟨rfl, rfl, rfl, trivial⟩, ⟨rfl, trivial⟩, rfl, rfl⟩⟩
                · refine COk.seqQ fun Q2814 qn2814 qx2814 qr2814 => ?_
                  refine gor hn ?_
                  refine qn2814 _ _ ?_
                  obtain ⟨o58, h57, h50⟩ := bindM h50
                  refine COk.joinR (ι := { s : (Int × Int) // o58 = Ctl.next s }) (fun s => [(7, .ptr 7 0), (9, .int s.1.1), (10, .int s.1.2)]) (fun s => [(7, .box (eIns a3) 81)]) (fun Q2815 qn2815 qx2815 qr2815 => ?_) (by intro s; rw [hn]; rfl) ?_
                  · refine goc hn ?_
                    refine bselM h57 (fun hb59 h57 => ?_) (fun hb59 h57 => ?_)
                    · refine gor hn ?_
                      refine qn2815 _ _ ?_
                      obtain rfl := Option.some.inj h57
                      refine EOk.done ?_
                      exact ⟨⟨_, rfl⟩, [], trivial, ⟨⟨rfl, rfl, rfl, trivial⟩, ⟨rfl, trivial⟩, rfl, rfl⟩⟩
                    · refine COk.seqQ fun Q2816 qn2816 qx2816 qr2816 => ?_
                      refine gor hn ?_
                      refine qn2816 _ _ ?_
                      obtain ⟨o62, h61, h57⟩ := bindM h57
                      refine COk.joinR (ι := { s : Int // o62 = Ctl.next s }) (fun s => [(7, .ptr 7 0), (9, .int (0 : Int)), (10, .int s.1)]) (fun s => [(7, .box (eIns a3) 81)]) (fun Q2817 qn2817 qx2817 qr2817 => ?_) (by intro s; rw [hn]; rfl) ?_
                      · refine goc hn ?_
                        refine bselM h61 (fun hb63 h61 => ?_) (fun hb63 h61 => ?_)
                        · refine COk.seqQ fun Q2818 qn2818 qx2818 qr2818 => ?_
                          refine gor hn ?_
                          refine lenM (fun hl64 => ?_)
                          refine Or.inr ?_
                          refine qn2818 _ _ ?_
                          refine COk.seqQ fun Q2819 qn2819 qx2819 qr2819 => ?_
                          obtain ⟨o67, h66, h61⟩ := bindM h61
                          refine COk.joinR (ι := { s : Bool // o67 = s }) (fun s => [(7, .ptr 7 0), (9, .int (0 : Int)), (10, .int (wr ((a0.classes.length : Int) - (1 : Int)))), (54, .bool s.1)]) (fun s => [(7, .box (eIns a3) 81)]) (fun Q2820 qn2820 qx2820 qr2820 => ?_) (by intro s; rw [hn]; rfl) ?_
                          · refine gor hn ?_
                            refine bselM h66 (fun hb68 h66 => ?_) (fun hb68 h66 => ?_)
                            · refine bselT hb68 ?_
                              refine bselT hb68 ?_
                              refine bselT hb68 ?_
                              refine qn2820 _ _ ?_
                              obtain rfl := Option.some.inj h66
                              refine EOk.done ?_
                              exact ⟨⟨_, rfl⟩, [], trivial, ⟨⟨rfl, rfl, rfl, rfl, trivial⟩, ⟨rfl, trivial⟩, rfl, rfl⟩⟩
                            · refine bselF hb68 ?_
                              refine bselF hb68 ?_
                              refine bselF hb68 ?_
                              refine qn2820 _ _ ?_
                              obtain rfl := Option.some.inj h66
                              refine EOk.done ?_
                              exact ⟨⟨_, rfl⟩, [], trivial, ⟨⟨rfl, rfl, rfl, rfl, trivial⟩, ⟨rfl, trivial⟩, rfl, rfl⟩⟩
                          rintro ⟨v65, hv_⟩
                          replace hv_ := hv_.symm
                          subst hv_
                          refine qn2819 _ _ ?_
                          refine goc hn ?_
                          refine bselM h61 (fun hb69 h61 => ?_) (fun hb69 h61 => ?_)
                          · refine COk.seqQ fun Q2821 qn2821 qx2821 qr2821 => ?_
                            refine gor hn ?_
                            refine qn2821 _ _ ?_
                            refine got hn ?_
                            refine qr2817 _ _ ?_
                            refine qr2815 _ _ ?_
                            refine qr2813 _ _ ?_
                            refine qr2809 _ _ ?_
                            refine qr2805 _ _ ?_
                            refine qr2803 _ _ ?_
                            refine qr2789 _ _ ?_
                            refine qr1422 _ _ ?_
                            obtain rfl := Option.some.inj h61
                            obtain rfl := Option.some.inj h57
                            obtain rfl := Option.some.inj h50
                            obtain rfl := Option.some.inj h41
                            obtain rfl := Option.some.inj h32
                            obtain rfl := Option.some.inj h27
                            obtain rfl := Option.some.inj h
                            exact ⟨[], _, rfl, (by repeat (first | exact trivial | exact rfl | (refine And.intro ?_ ?_))), trivial, rfl, rfl, rfl, rfl, rfl⟩
                          · refine gok hn ?_
                            refine qn2817 _ _ ?_
                            obtain rfl := Option.some.inj h61
                            refine EOk.done ?_
                            exact ⟨⟨_, rfl⟩, [], trivial, ⟨⟨rfl, rfl, rfl, trivial⟩, ⟨rfl, trivial⟩, rfl, rfl⟩⟩
                        · refine COk.seqQ fun Q2822 qn2822 qx2822 qr2822 => ?_
                          refine gor hn ?_
                          refine qn2822 _ _ ?_
                          obtain ⟨o72, h71, h61⟩ := bindM h61
                          refine COk.joinR (ι := { s : Int // o72 = Ctl.next s }) (fun s => [(7, .ptr 7 0), (9, .int (0 : Int)), (10, .int s.1)]) (fun s => [(7, .box (eIns a3) 81)]) (fun Q2823 qn2823 qx2823 qr2823 => ?_) (by intro s; rw [hn]; rfl) ?_
                          · refine goc hn ?_
                            refine bselM h71 (fun hb73 h71 => ?_) (fun hb73 h71 => ?_)
                            · refine gor hn ?_
                              refine qn2823 _ _ ?_
                              obtain rfl := Option.some.inj h71
                              refine EOk.done ?_
                              exact ⟨⟨_, rfl⟩, [], trivial, ⟨⟨rfl, rfl, rfl, trivial⟩, ⟨rfl, trivial⟩, rfl, rfl⟩⟩
                            · refine COk.seqQ fun Q2824 qn2824 qx2824 qr2824 => ?_
                              refine COk.seqQ fun Q2825 qn2825 qx2825 qr2825 => ?_
                              refine gor hn ?_
                              refine qn2825 _ _ ?_
                              obtain ⟨o76, h75, h71⟩ := bindM h71
                              refine COk.joinR (ι := { s : Bool // o76 = s }) (fun s => [(6, .ptr 6 0), (7, .ptr 7 0), (9, .int (0 : Int)), (57, .bool s.1)]) (fun s => [(6, .box (eMe a2) 74), (7, .box (eIns a3) 81)]) (fun Q2826 qn2826 qx2826 qr2826 => ?_) (by intro s; rw [hn]; rfl) ?_
                              · refine goc hn ?_
                                refine bselM h75 (fun hb77 h75 => ?_) (fun hb77 h75 => ?_)
                                · refine gok hn ?_
                                  refine qn2826 _ _ ?_
                                  obtain rfl := Option.some.inj h75
                                  refine EOk.done ?_
                                  exact ⟨⟨_, rfl⟩, [], trivial, ⟨⟨rfl, rfl, rfl, rfl, trivial⟩, ⟨rfl, rfl, trivial⟩, rfl, rfl⟩⟩
                                · refine gor hn ?_
                                  refine qn2826 _ _ ?_
                                  obtain rfl := Option.some.inj h75
                                  refine EOk.done ?_
                                  exact ⟨⟨_, rfl⟩, [], trivial, ⟨⟨rfl, rfl, rfl, rfl, trivial⟩, ⟨rfl, rfl, trivial⟩, rfl, rfl⟩⟩
                              rintro ⟨v74, hv_⟩
                              replace hv_ := hv_.symm
                              subst hv_
                              refine qn2824 _ _ ?_
                              refine goc hn ?_
                              refine bselM h71 (fun hb78 h71 => ?_) (fun hb78 h71 => ?_)
                              · refine gor hn ?_
                                refine lenM (fun hl79 => ?_)
                                refine Or.inr ?_
                                refine qn2823 _ _ ?_
                                obtain rfl := Option.some.inj h71
                                refine EOk.done ?_
                                exact ⟨⟨_, rfl⟩, [], trivial, ⟨⟨rfl, rfl, rfl, trivial⟩, ⟨rfl, trivial⟩, rfl, rfl⟩⟩
                              · refine COk.seqQ fun Q2827 qn2827 qx2827 qr2827 => ?_
                                refine gor hn ?_
                                refine qn2827 _ _ ?_
                                refine got hn ?_
                                refine qr2823 _ _ ?_
                                refine qr2817 _ _ ?_
                                refine qr2815 _ _ ?_
                                refine qr2813 _ _ ?_
                                refine qr2809 _ _ ?_
                                refine qr2805 _ _ ?_
                                refine qr2803 _ _ ?_
                                refine qr2789 _ _ ?_
                                refine qr1422 _ _ ?_
                                obtain rfl := Option.some.inj h71
                                obtain rfl := Option.some.inj h61
                                obtain rfl := Option.some.inj h57
                                obtain rfl := Option.some.inj h50
                                obtain rfl := Option.some.inj h41
                                obtain rfl := Option.some.inj h32
                                obtain rfl := Option.some.inj h27
                                obtain rfl := Option.some.inj h
                                exact ⟨[], _, rfl, (by repeat (first | exact trivial | exact rfl | (refine And.intro ?_ ?_))), trivial, rfl, rfl, rfl, rfl, rfl⟩
                          rintro ⟨v70, rfl⟩
                          refine qn2817 _ _ ?_
                          obtain rfl := Option.some.inj h61
                          refine EOk.done ?_
                          exact ⟨⟨_, rfl⟩, [], trivial, ⟨⟨rfl, rfl, rfl, trivial⟩, ⟨rfl, trivial⟩, rfl, rfl⟩⟩
                      rintro ⟨v60, rfl⟩
                      refine qn2815 _ _ ?_
                      obtain rfl := Option.some.inj h57
                      refine EOk.done ?_
                      exact ⟨⟨_, rfl⟩, [], trivial, ⟨⟨rfl, rfl, rfl, trivial⟩, ⟨rfl, trivial⟩, rfl, rfl⟩⟩
                  rintro ⟨⟨v55, v56⟩, rfl⟩
                  refine qn2813 _ _ ?_
                  obtain rfl := Option.some.inj h50
                  refine EOk.done ?_
                  exact ⟨⟨_, rfl⟩, [], trivial, ⟨⟨rfl, rfl, rfl, trivial⟩, ⟨rfl, trivial⟩, rfl, rfl⟩⟩
              rintro ⟨⟨v48, v49⟩, rfl⟩
              refine qn2809 _ _ ?_
              obtain rfl := Option.some.inj h41
              refine EOk.done ?_
              exact ⟨⟨_, rfl⟩, [], trivial, ⟨⟨rfl, rfl, rfl, trivial⟩, ⟨rfl, trivial⟩, rfl, rfl⟩⟩
          rintro ⟨⟨v39, v40⟩, rfl⟩
          refine qn2805 _ _ ?_
          obtain rfl := Option.some.inj h32
          refine EOk.done ?_
          exact ⟨⟨_, rfl⟩, [], trivial, ⟨⟨rfl, rfl, rfl, trivial⟩, ⟨rfl, trivial⟩, rfl, rfl⟩⟩
      rintro ⟨⟨v30, v31⟩, rfl⟩
      refine qn2803 _ _ ?_
      obtain rfl := Option.some.inj h27
      refine EOk.done ?_
      exact ⟨⟨_, rfl⟩, [], trivial, ⟨⟨rfl, rfl, rfl, trivial⟩, ⟨rfl, trivial⟩, rfl, rfl⟩⟩
  rintro ⟨⟨v25, v26⟩, rfl⟩
  refine qn2789 _ _ ?_
  refine qn1422 _ _ ?_
  refine COk.seqQ fun Q2828 qn2828 qx2828 qr2828 => ?_
  refine COk.seqQ fun Q2829 qn2829 qx2829 qr2829 => ?_
  obtain ⟨o82, h81, h⟩ := bindM h
  refine COk.joinR (ι := { s : Bool // o82 = s }) (fun s => [(7, .ptr 7 0), (73, .bool s.1)]) (fun s => [(7, .box (eIns a3) 81)]) (fun Q2830 qn2830 qx2830 qr2830 => ?_) (by intro s; rw [hn]; rfl) ?_
  · refine gor hn ?_
    refine bselM h81 (fun hb83 h81 => ?_) (fun hb83 h81 => ?_)
    · refine bselT hb83 ?_
      refine bselT hb83 ?_
      refine bselT hb83 ?_
      refine bselT hb83 ?_
      refine qn2830 _ _ ?_
      obtain rfl := Option.some.inj h81
      refine EOk.done ?_
      exact ⟨⟨_, rfl⟩, [], trivial, ⟨⟨rfl, rfl, trivial⟩, ⟨rfl, trivial⟩, rfl, rfl⟩⟩
    · refine bselF hb83 ?_
      refine bselF hb83 ?_
      refine bselF hb83 ?_
      refine bselF hb83 ?_
      refine qn2830 _ _ ?_
      obtain rfl := Option.some.inj h81
      refine EOk.done ?_
      exact ⟨⟨_, rfl⟩, [], trivial, ⟨⟨rfl, rfl, trivial⟩, ⟨rfl, trivial⟩, rfl, rfl⟩⟩
  rintro ⟨v80, hv_⟩
  replace hv_ := hv_.symm
  subst hv_
  refine qn2829 _ _ ?_
  refine goc hn ?_
  refine bselM h (fun hb84 h => ?_) (fun hb84 h => ?_)
  · refine COk.seqQ fun Q2832 qn2832 qx2832 qr2832 => ?_
    refine gor hn ?_
    refine qn2832 _ _ ?_
    refine got hn ?_
    refine qr2828 _ _ ?_
    obtain rfl := Option.some.inj h
    exact ⟨[], _, rfl, (by repeat (first | exact trivial | exact rfl | (refine And.intro ?_ ?_))), trivial, rfl, rfl, rfl, rfl, rfl⟩
  · refine gok hn ?_
    refine qn2828 _ _ ?_
    refine COk.seqQ fun Q2833 qn2833 qx2833 qr2833 => ?_
    refine COk.seqQ fun Q2834 qn2834 qx2834 qr2834 => ?_
    obtain ⟨o87, h86, h⟩ := bindM h
    refine COk.joinR (ι := { s : Bool // o87 = s }) (fun s => [(102, .bool s.1)]) (fun s => []) (fun Q2835 qn2835 qx2835 qr2835 => ?_) (by intro s; rw [hn]; rfl) ?_
    · refine gor hn ?_
      refine bselM h86 (fun hb88 h86 => ?_) (fun hb88 h86 => ?_)
      · refine bselT hb88 ?_
        refine bselT hb88 ?_
        obtain ⟨r89, hr90, h86⟩ := bindM h86
        show CallOk Try.prog _ _ _ _
        refine CallOk.as (qcref1_Name_ok N a3.name r89 hr90) (by repeat (first | exact trivial | exact rfl | (refine And.intro ?_ ?_))) trivial rfl ?_
        refine bselT hb88 ?_
        refine bselT hb88 ?_
        refine bselM h86 (fun hb91 h86 => ?_) (fun hb91 h86 => ?_)
        · refine bselT hb91 ?_
          refine bselT hb91 ?_
          refine bselT hb91 ?_
          refine bselT hb91 ?_
          refine bselT hb91 ?_
          refine qn2835 _ _ ?_
          obtain rfl := Option.some.inj h86
          refine EOk.done ?_
          exact ⟨⟨_, rfl⟩, [], trivial, ⟨⟨rfl, trivial⟩, trivial, rfl, rfl⟩⟩
        · refine bselF hb91 ?_
          refine bselF hb91 ?_
          refine bselF hb91 ?_
          refine bselM h86 (fun hb92 h86 => ?_) (fun hb92 h86 => ?_)
          · refine bselT hb92 ?_
            refine bselT hb92 ?_
            refine bselF hb91 ?_
            refine bselT hb92 ?_
            refine bselF hb91 ?_
            refine bselM h86 (fun hb93 h86 => ?_) (fun hb93 h86 => ?_)
            · refine bselT hb93 ?_
              refine bselT hb93 ?_
              refine bselT hb93 ?_
              refine qn2835 _ _ ?_
              obtain rfl := Option.some.inj h86
              refine EOk.done ?_
              exact ⟨⟨_, rfl⟩, [], trivial, ⟨⟨rfl, trivial⟩, trivial, rfl, rfl⟩⟩
            · refine bselF hb93 ?_
              refine bselF hb93 ?_
              refine bselF hb93 ?_
              refine bselM h86 (fun hb94 h86 => ?_) (fun hb94 h86 => ?_)
              · refine bselT hb94 ?_
                refine bselT hb94 ?_
                refine bselT hb94 ?_
                refine qn2835 _ _ ?_
                obtain rfl := Option.some.inj h86
                refine EOk.done ?_
                exact ⟨⟨_, rfl⟩, [], trivial, ⟨⟨rfl, trivial⟩, trivial, rfl, rfl⟩⟩
              · refine bselF hb94 ?_
                refine bselF hb94 ?_
                refine bselF hb94 ?_
                refine qn2835 _ _ ?_
                obtain rfl := Option.some.inj h86
                refine EOk.done ?_
                exact ⟨⟨_, rfl⟩, [], trivial, ⟨⟨rfl, trivial⟩, trivial, rfl, rfl⟩⟩
          · refine bselF hb92 ?_
            refine bselF hb92 ?_
            refine bselF hb91 ?_
            refine bselF hb92 ?_
            refine bselF hb91 ?_
            refine bselM h86 (fun hb95 h86 => ?_) (fun hb95 h86 => ?_)
            · refine bselT hb95 ?_
              refine bselT hb95 ?_
              refine bselT hb95 ?_
              refine qn2835 _ _ ?_
              obtain rfl := Option.some.inj h86
              refine EOk.done ?_
              exact ⟨⟨_, rfl⟩, [], trivial, ⟨⟨rfl, trivial⟩, trivial, rfl, rfl⟩⟩
            · refine bselF hb95 ?_
              refine bselF hb95 ?_
              refine bselF hb95 ?_
              refine qn2835 _ _ ?_
              obtain rfl := Option.some.inj h86
              refine EOk.done ?_
              exact ⟨⟨_, rfl⟩, [], trivial, ⟨⟨rfl, trivial⟩, trivial, rfl, rfl⟩⟩
      · refine bselF hb88 ?_
        refine bselF hb88 ?_
        refine bselF hb88 ?_
        refine bselF hb88 ?_
        refine bselM h86 (fun hb96 h86 => ?_) (fun hb96 h86 => ?_)
        · refine bselT hb96 ?_
          refine bselT hb96 ?_
          refine bselT hb96 ?_
          refine bselM h86 (fun hb97 h86 => ?_) (fun hb97 h86 => ?_)
          · refine bselT hb97 ?_
            refine bselT hb97 ?_
            refine bselT hb97 ?_
            refine qn2835 _ _ ?_
            obtain rfl := Option.some.inj h86
            refine EOk.done ?_
            exact ⟨⟨_, rfl⟩, [], trivial, ⟨⟨rfl, trivial⟩, trivial, rfl, rfl⟩⟩
          · refine bselF hb97 ?_
            refine bselF hb97 ?_
            refine bselF hb97 ?_
            refine bselM h86 (fun hb98 h86 => ?_) (fun hb98 h86 => ?_)
            · refine bselT hb98 ?_
              refine bselT hb98 ?_
              refine bselT hb98 ?_
              refine qn2835 _ _ ?_
              obtain rfl := Option.some.inj h86
              refine EOk.done ?_
              exact ⟨⟨_, rfl⟩, [], trivial, ⟨⟨rfl, trivial⟩, trivial, rfl, rfl⟩⟩
            · refine bselF hb98 ?_
              refine bselF hb98 ?_
              refine bselF hb98 ?_
              refine qn2835 _ _ ?_
              obtain rfl := Option.some.inj h86
              refine EOk.done ?_
              exact ⟨⟨_, rfl⟩, [], trivial, ⟨⟨rfl, trivial⟩, trivial, rfl, rfl⟩⟩
        · refine bselF hb96 ?_
          refine bselF hb96 ?_
          refine bselF hb96 ?_
          refine bselM h86 (fun hb99 h86 => ?_) (fun hb99 h86 => ?_)
          · refine bselT hb99 ?_
            refine bselT hb99 ?_
            refine bselT hb99 ?_
            refine qn2835 _ _ ?_
            obtain rfl := Option.some.inj h86
            refine EOk.done ?_
            exact ⟨⟨_, rfl⟩, [], trivial, ⟨⟨rfl, trivial⟩, trivial, rfl, rfl⟩⟩
          · refine bselF hb99 ?_
            refine bselF hb99 ?_
            refine bselF hb99 ?_
            refine qn2835 _ _ ?_
            obtain rfl := Option.some.inj h86
            refine EOk.done ?_
            exact ⟨⟨_, rfl⟩, [], trivial, ⟨⟨rfl, trivial⟩, trivial, rfl, rfl⟩⟩
    rintro ⟨v85, hv_⟩
    replace hv_ := hv_.symm
    subst hv_
    refine qn2834 _ _ ?_
    refine goc hn ?_
    refine bselM h (fun hb100 h => ?_) (fun hb100 h => ?_)
    · refine COk.seqQ fun Q2837 qn2837 qx2837 qr2837 => ?_
      refine gor hn ?_
      refine qn2837 _ _ ?_
      refine got hn ?_
      refine qr2833 _ _ ?_
      obtain rfl := Option.some.inj h
      exact ⟨[], _, rfl, (by repeat (first | exact trivial | exact rfl | (refine And.intro ?_ ?_))), trivial, rfl, rfl, rfl, rfl, rfl⟩
    · refine gok hn ?_
      refine qn2833 _ _ ?_
      refine COk.seqQ fun Q2838 qn2838 qx2838 qr2838 => ?_
      refine gor hn ?_
      refine qn2838 _ _ ?_
      refine got hn ?_
      obtain rfl := Option.some.inj h
      exact ⟨[], _, rfl, (by repeat (first | exact trivial | exact rfl | (refine And.intro ?_ ?_))), trivial, rfl, rfl, rfl, rfl, rfl⟩

/- qcref1.Next -/
set_option maxRecDepth 100000 in
set_option maxHeartbeats 1000000 in
theorem qcref1_Next_ok (N : Nat) (a0 : Ins) (a1 : Int) (r : (Int × Int × (List Int))) (h : qcref1_Next N a0 a1 = some r) : Spec Try.prog 53 [] [.agg (eIns a0), .int a1] (.tup [.int r.1, .int r.2.1, .own 0]) [(0, .row 1 (List.map eInt r.2.2) 3)] [0] := by
  refine Spec.of tabOk Try.func53 rfl Try.ntmps53 (by kernel_rfl) rfl rfl rfl fun Γ hn => ?_
  unfold qcref1_Next at h
  refine COk.seqQ fun Q77 qn77 qx77 qr77 => ?_
  refine gor hn ?_
  refine qn77 _ _ ?_
  refine COk.seqQ fun Q78 qn78 qx78 qr78 => ?_
  refine COk.seqQ fun Q79 qn79 qx79 qr79 => ?_
  refine gor hn ?_
  refine qn79 _ _ ?_
  refine COk.blkQ fun Q135 qn135 qe135 qx135 qr135 => ?_
  refine COk.seqQ fun Q136 qn136 qx136 qr136 => ?_
  refine COk.seqQ fun Q137 qn137 qx137 qr137 => ?_
  refine gor hn ?_
  refine qn137 _ _ ?_
  obtain ⟨o3, h2, h⟩ := bindM h
  refine COk.joinR (ι := { s : Bool // o3 = s }) (fun s => [(1, .int a1), (2, .ptr 2 0), (8, .int a0.op), (9, .bool s.1)]) (fun s => [(2, .box (eIns a0) 81)]) (fun Q138 qn138 qx138 qr138 => ?_) (by intro s; rw [hn]; rfl) ?_
  · refine goc hn ?_
    refine bselM h2 (fun hb4 h2 => ?_) (fun hb4 h2 => ?_)
    · refine gok hn ?_
      refine qn138 _ _ ?_
      obtain rfl := Option.some.inj h2
      refine EOk.done ?_
      exact ⟨⟨_, rfl⟩, [], trivial, ⟨⟨rfl, rfl, rfl, rfl, trivial⟩, ⟨rfl, trivial⟩, rfl, rfl⟩⟩
    · refine COk.seqQ fun Q139 qn139 qx139 qr139 => ?_
      refine gor hn ?_
      refine qn139 _ _ ?_
      obtain ⟨o7, h6, h2⟩ := bindM h2
      refine COk.joinR (ι := { s : Bool // o7 = s }) (fun s => [(1, .int a1), (2, .ptr 2 0), (8, .int a0.op), (9, .bool s.1)]) (fun s => [(2, .box (eIns a0) 81)]) (fun Q140 qn140 qx140 qr140 => ?_) (by intro s; rw [hn]; rfl) ?_
      · refine goc hn ?_
        refine bselM h6 (fun hb8 h6 => ?_) (fun hb8 h6 => ?_)
        · refine gok hn ?_
          refine qn140 _ _ ?_
          obtain rfl := Option.some.inj h6
          refine EOk.done ?_
          exact ⟨⟨_, rfl⟩, [], trivial, ⟨⟨rfl, rfl, rfl, rfl, trivial⟩, ⟨rfl, trivial⟩, rfl, rfl⟩⟩
        · refine gor hn ?_
          refine qn140 _ _ ?_
          obtain rfl := Option.some.inj h6
          refine EOk.done ?_
          exact ⟨⟨_, rfl⟩, [], trivial, ⟨⟨rfl, rfl, rfl, rfl, trivial⟩, ⟨rfl, trivial⟩, rfl, rfl⟩⟩
      rintro ⟨v5, hv_⟩
      replace hv_ := hv_.symm
      subst hv_
      refine qn138 _ _ ?_
      obtain rfl := Option.some.inj h2
      refine EOk.done ?_
      exact ⟨⟨_, rfl⟩, [], trivial, ⟨⟨rfl, rfl, rfl, rfl, trivial⟩, ⟨rfl, trivial⟩, rfl, rfl⟩⟩
  rintro ⟨v1, hv_⟩
  replace hv_ := hv_.symm
  subst hv_
  refine qn136 _ _ ?_
  refine goc hn ?_
  refine bselM h (fun hb9 h => ?_) (fun hb9 h => ?_)
  · refine COk.seqQ fun Q141 qn141 qx141 qr141 => ?_
    refine gor hn ?_
    refine Or.inr ?_
    refine Exists.intro (List.map eInt [(wr (a1 + (1 : Int)))]) (And.intro (by repeat (first | exact trivial | exact rfl | (refine And.intro ?_ ?_))) ?_)
    refine qn141 _ _ ?_
    refine got hn ?_
    refine qr135 _ _ ?_
    refine qr78 _ _ ?_
    obtain rfl := Option.some.inj h
    exact ⟨[(0, 15)], _, rfl, (by repeat (first | exact trivial | exact rfl | (refine And.intro ?_ ?_))), ⟨rfl, trivial⟩, rfl, rfl, rfl, rfl, rfl⟩
  · refine COk.seqQ fun Q142 qn142 qx142 qr142 => ?_
    refine gor hn ?_
    refine qn142 _ _ ?_
    refine goc hn ?_
    refine bselM h (fun hb10 h => ?_) (fun hb10 h => ?_)
    · refine COk.seqQ fun Q143 qn143 qx143 qr143 => ?_
      refine gor hn ?_
      refine Or.inr ?_
      refine Exists.intro (List.map eInt [(wr (a1 + (1 : Int)))]) (And.intro (by repeat (first | exact trivial | exact rfl | (refine And.intro ?_ ?_))) ?_)
      refine qn143 _ _ ?_
      refine got hn ?_
      refine qr135 _ _ ?_
      refine qr78 _ _ ?_
      obtain rfl := Option.some.inj h
      exact ⟨[(0, 20)], _, rfl, (by repeat (first | exact trivial | exact rfl | (refine And.intro ?_ ?_))), ⟨rfl, trivial⟩, rfl, rfl, rfl, rfl, rfl⟩
    · refine COk.seqQ fun Q144 qn144 qx144 qr144 => ?_
      refine gor hn ?_
      refine qn144 _ _ ?_
      refine goc hn ?_
      refine bselM h (fun hb11 h => ?_) (fun hb11 h => ?_)
      · refine COk.seqQ fun Q145 qn145 qx145 qr145 => ?_
        refine god hn (by kernel_rfl) ?_
        refine Or.inr ?_
        obtain ⟨hg12, h⟩ := guardM h
        refine decM hg12 ?_
        refine Or.inr ?_
        refine Exists.intro (List.map eInt [(wr (a1 + (1 : Int)))]) (And.intro (by repeat (first | exact trivial | exact rfl | (refine And.intro ?_ ?_))) ?_)
        refine qn145 _ _ ?_
        refine got hn ?_
        refine qr135 _ _ ?_
        refine qr78 _ _ ?_
        obtain rfl := Option.some.inj h
        exact ⟨[(0, 31)], _, rfl, (by repeat (first | exact trivial | exact rfl | (refine And.intro ?_ ?_))), ⟨rfl, trivial⟩, rfl, rfl, rfl, rfl, rfl⟩
      · refine COk.seqQ fun Q146 qn146 qx146 qr146 => ?_
        refine gor hn ?_
        refine qn146 _ _ ?_
        refine goc hn ?_
        refine bselM h (fun hb13 h => ?_) (fun hb13 h => ?_)
        · refine COk.seqQ fun Q147 qn147 qx147 qr147 => ?_
          refine god hn (by kernel_rfl) ?_
          refine Exists.intro (List.map eInt [a0.a]) (And.intro (by repeat (first | exact trivial | exact rfl | (refine And.intro ?_ ?_))) ?_)
          refine qn147 _ _ ?_
          refine got hn ?_
          refine qr135 _ _ ?_
          refine qr78 _ _ ?_
          obtain rfl := Option.some.inj h
          exact ⟨[(0, 36)], _, rfl, (by repeat (first | exact trivial | exact rfl | (refine And.intro ?_ ?_))), ⟨rfl, trivial⟩, rfl, rfl, rfl, rfl, rfl⟩
        · refine COk.seqQ fun Q148 qn148 qx148 qr148 => ?_
          refine gor hn ?_
          refine qn148 _ _ ?_
          refine goc hn ?_
          refine bselM h (fun hb14 h => ?_) (fun hb14 h => ?_)
          · refine COk.seqQ fun Q149 qn149 qx149 qr149 => ?_
            refine god hn (by kernel_rfl) ?_
            refine Or.inr ?_
            refine Exists.intro (List.map eInt [(wr (a1 + (1 : Int))), a0.a]) (And.intro (by repeat (first | exact trivial | exact rfl | (refine And.intro ?_ ?_))) ?_)
            refine qn149 _ _ ?_
            refine got hn ?_
            refine qr135 _ _ ?_
            refine qr78 _ _ ?_
            obtain rfl := Option.some.inj h
            exact ⟨[(0, 43)], _, rfl, (by repeat (first | exact trivial | exact rfl | (refine And.intro ?_ ?_))), ⟨rfl, trivial⟩, rfl, rfl, rfl, rfl, rfl⟩
          · refine COk.seqQ fun Q150 qn150 qx150 qr150 => ?_
            refine gor hn ?_
            refine qn150 _ _ ?_
            refine goc hn ?_
            refine bselM h (fun hb15 h => ?_) (fun hb15 h => ?_)
            · refine COk.seqQ fun Q151 qn151 qx151 qr151 => ?_
              refine gor hn ?_
              refine qn151 _ _ ?_
              refine COk.nilrow 6 206 1 3 rfl rfl rfl ?_
              refine got hn ?_
              refine qr135 _ _ ?_
              refine qr78 _ _ ?_
              obtain rfl := Option.some.inj h
              exact ⟨[(0, 206)], _, rfl, (by repeat (first | exact trivial | exact rfl | (refine And.intro ?_ ?_))), ⟨rfl, trivial⟩, rfl, rfl, rfl, rfl, rfl⟩
            · refine gok hn ?_
              refine qn135 _ _ ?_
              refine qn78 _ _ ?_
              refine COk.seqQ fun Q152 qn152 qx152 qr152 => ?_
              refine gor hn ?_
              refine Or.inr ?_
              refine Exists.intro (List.map eInt [(wr (a1 + (1 : Int)))]) (And.intro (by repeat (first | exact trivial | exact rfl | (refine And.intro ?_ ?_))) ?_)
              refine qn152 _ _ ?_
              refine got hn ?_
              obtain rfl := Option.some.inj h
              exact ⟨[(0, 48)], _, rfl, (by repeat (first | exact trivial | exact rfl | (refine And.intro ?_ ?_))), ⟨rfl, trivial⟩, rfl, rfl, rfl, rfl, rfl⟩

/- qcref1.Heights -/
set_option maxRecDepth 100000 in
set_option maxHeartbeats 1000000 in
theorem qcref1_Heights_ok (N : Nat) (a0 : Me) (r : ((List Int) × TFault)) (h : qcref1_Heights N a0 = some r) : Spec Try.prog 51 [] [.agg (eMe a0)] (.tup [.own 0, .agg (eTFault r.2)]) [(0, .row 1 (List.map eInt r.1) 3)] [0] := by
  refine Spec.of tabOk Try.func51 rfl Try.ntmps51 (by kernel_rfl) rfl rfl rfl fun Γ hn => ?_
  unfold qcref1_Heights at h
  refine COk.seqQ fun Q549 qn549 qx549 qr549 => ?_
  refine gor hn ?_
  refine qn549 _ _ ?_
  refine COk.seqQ fun Q550 qn550 qx550 qr550 => ?_
  refine gor hn ?_
  refine lenM (fun hl1 => ?_)
  obtain ⟨hg2, h⟩ := guardM h
  refine mkM (enc := eInt) (x := (0 : Int)) hg2 (by repeat (first | exact trivial | exact rfl | (refine And.intro ?_ ?_))) ?_
  refine qn550 _ _ ?_
  refine COk.seqQ fun Q551 qn551 qx551 qr551 => ?_
  refine COk.seqQ fun Q552 qn552 qx552 qr552 => ?_
  refine gor hn ?_
  refine lenM (fun hl3 => ?_)
  refine qn552 _ _ ?_
  refine COk.rng 21 rfl (fun hrn => ?_)
  obtain ⟨o8, h9, h⟩ := bindM h
  refine COk.joinR (ι := { s : (List Int) // o8 = s }) (fun s => [(1, .ptr 1 0), (3, .ptr 3 0), (4, .own 19)]) (fun s => [(1, .box (eMe a0) 74), (3, .box [.int (0 : Int), .int (0 : Int)] 85), (19, .row 1 (List.map eInt s.1) 3)]) (fun Q574 qn574 qx574 qr574 => ?_) (by intro s; rw [hn]; rfl) ?_
  · refine COk.blkQ fun Q575 qn575 qe575 qx575 qr575 => ?_
    refine COk.loopQ (ι := { q : (Nat × Nat × (List Int)) // q.1 = (((List.replicate (a0.code.length : Int).toNat (0 : Int)).length : Int) - (q.2.1 : Int)).toNat ∧ qcref1_Heights_l1 N q.1 q.2.1 q.2.2 = some o8 }) (fun q => [(1, .ptr 1 0), (3, .ptr 3 0), (4, .own 19), (21, .int ((List.replicate (a0.code.length : Int).toNat (0 : Int)).length : Int)), (22, .int (q.1.2.1 : Int))]) (fun q => [(1, .box (eMe a0) 74), (3, .box [.int (0 : Int), .int (0 : Int)] 85), (19, .row 1 (List.map eInt q.1.2.2) 3)]) (fun q => q.1.1) ⟨((((List.replicate (a0.code.length : Int).toNat (0 : Int)).length : Int) - ((0 : Nat) : Int)).toNat, 0, (List.replicate (a0.code.length : Int).toNat (0 : Int))), rfl, h9⟩ [] ⟨⟨rfl, rfl, rfl, rfl, rfl, trivial⟩, ⟨rfl, rfl, rfl, trivial⟩, rfl, rfl⟩ (by intro q; rw [hn]; rfl) ?_
    rintro ⟨⟨n_, k4, v5⟩, hd11, h9⟩ Q576 qn576 qx576 qr576
    replace hd11 : n_ = (((List.replicate (a0.code.length : Int).toNat (0 : Int)).length : Int) - (k4 : Int)).toNat := hd11
    rcases n_ with _ | n12
    · have hlt15 := upNil hd11
      replace h9 := (qcref1_Heights_l1.eq_1 _ _ _).symm.trans h9
      refine COk.seqQ fun Q577 qn577 qx577 qr577 => ?_
      refine gor hn ?_
      refine qn577 _ _ ?_
      refine COk.seqQ fun Q578 qn578 qx578 qr578 => ?_
      refine goc hn ?_
      refine bselF hlt15 ?_
      refine goe hn ?_
      refine qx578 _ _ _ ?_
      refine qx576 _ _ _ ?_
      refine qe575 _ _ ?_
      refine qn574 _ _ ?_
      obtain rfl := Option.some.inj h9
      refine EOk.done ?_
      exact ⟨⟨_, rfl⟩, [], trivial, ⟨⟨rfl, rfl, rfl, trivial⟩, ⟨rfl, rfl, rfl, trivial⟩, rfl, rfl⟩⟩
    · obtain ⟨hd2, hlt15⟩ := upCons hd11
      replace h9 := (qcref1_Heights_l1.eq_2 _ _ _ _).symm.trans h9
      refine COk.seqQ fun Q579 qn579 qx579 qr579 => ?_
      refine gor hn ?_
      refine qn579 _ _ ?_
      refine COk.seqQ fun Q580 qn580 qx580 qr580 => ?_
      refine goc hn ?_
      refine bselT hlt15 ?_
      refine gok hn ?_
      refine qn580 _ _ ?_
      refine COk.seqQ fun Q581 qn581 qx581 qr581 => ?_
      refine COk.blkQ fun Q584 qn584 qe584 qx584 qr584 => ?_
      refine COk.seqQ fun Q585 qn585 qx585 qr585 => ?_
      refine gor hn ?_
      refine qn585 _ _ ?_
      refine gor hn ?_
      obtain ⟨x16, hx17, h9⟩ := bindM h9
      refine ownM hx17 ?_
      refine ldM (nthO_some hx17).2 ?_
      refine Exists.intro (List.map eInt (v5.set ((k4 : Int).toNat) (-1 : Int))) (And.intro (leLs_set (nthO_some hx17).2 (by repeat (first | exact trivial | exact rfl | (refine And.intro ?_ ?_)))) ?_)
      refine qn584 _ _ ?_
      refine qn581 _ _ ?_
      refine gor hn ?_
      refine Or.inl (And.intro (inrU hlt15 hrn) ?_)
      refine qn576 _ _ ?_
      refine EOk.done ?_
      exact ⟨⟨(n12, k4 + 1, (v5.set ((k4 : Int).toNat) (-1 : Int))), hd2, h9⟩, [], by show n12 < n12 + 1; omega, ⟨⟨rfl, rfl, rfl, rfl, rfl, trivial⟩, ⟨rfl, rfl, rfl, trivial⟩, rfl, rfl⟩⟩
  rintro ⟨v7, hv_⟩
  replace hv_ := hv_.symm
  subst hv_
  refine qn551 _ _ ?_
  refine COk.seqQ fun Q586 qn586 qx586 qr586 => ?_
  refine gor hn ?_
  refine Exists.intro (List.map eInt [(0 : Int)]) (And.intro (by repeat (first | exact trivial | exact rfl | (refine And.intro ?_ ?_))) ?_)
  refine Exists.intro (List.map eInt [(0 : Int)]) (And.intro (by repeat (first | exact trivial | exact rfl | (refine And.intro ?_ ?_))) ?_)
  refine qn586 _ _ ?_
  refine COk.seqQ fun Q587 qn587 qx587 qr587 => ?_
  refine COk.seqQ fun Q588 qn588 qx588 qr588 => ?_
  refine gor hn ?_
  refine qn588 _ _ ?_
  obtain ⟨o28, h29, h⟩ := bindM h
  refine COk.joinR (ι := { s : (List Int) // o28 = Ctl.next s }) (fun s => [(3, .ptr 3 0), (4, .own 19)]) (fun s => [(3, .box [.int (0 : Int), .int (0 : Int)] 85), (19, .row 1 (List.map eInt s.1) 3)]) (fun Q967 qn967 qx967 qr967 => ?_) (by intro s; rw [hn]; rfl) ?_
  · refine COk.blkQ fun Q968 qn968 qe968 qx968 qr968 => ?_
    refine COk.loopQ (ι := { q : (Nat × (List Int) × (List Int) × (List Int) × Int) // qcref1_Heights_l2 N a0 q.1 q.2.1 q.2.2.1 q.2.2.2.1 q.2.2.2.2 = some o28 }) (fun q => [(1, .ptr 1 0), (3, .ptr 3 0), (4, .own 19), (6, .own 29), (7, .own 30), (8, .int q.1.2.2.2.2)]) (fun q => [(1, .box (eMe a0) 74), (3, .box [.int (0 : Int), .int (0 : Int)] 85), (19, .row 1 (List.map eInt q.1.2.1) 3), (29, .row 1 (List.map eInt q.1.2.2.1) 3), (30, .row 1 (List.map eInt q.1.2.2.2.1) 3)]) (fun q => q.1.1) ⟨(N, v7, [(0 : Int)], [(0 : Int)], (0 : Int)), h29⟩ [] ⟨⟨rfl, rfl, rfl, rfl, rfl, rfl, trivial⟩, ⟨rfl, rfl, rfl, rfl, rfl, trivial⟩, rfl, rfl⟩ (by intro q; rw [hn]; rfl) ?_
    rintro ⟨⟨n_, v19, v20, v21, v22⟩, h29⟩ Q969 qn969 qx969 qr969
    rcases n_ with _ | n32
    · rw [qcref1_Heights_l2.eq_1] at h29
      cases h29
    · replace h29 := (qcref1_Heights_l2.eq_2 _ _ _ _ _ _ _).symm.trans h29
      refine COk.seqQ fun Q970 qn970 qx970 qr970 => ?_
      refine COk.seqQ fun Q971 qn971 qx971 qr971 => ?_
      refine gor hn ?_
      refine lenM (fun hl33 => ?_)
      refine qn971 _ _ ?_
      refine goc hn ?_
      refine bselM h29 (fun hb34 h29 => ?_) (fun hb34 h29 => ?_)
      · refine gok hn ?_
        refine qn970 _ _ ?_
        refine COk.seqQ fun Q972 qn972 qx972 qr972 => ?_
        obtain ⟨o39, h38, h29⟩ := bindM h29
        refine COk.joinR (ι := { s : ((List Int) × (List Int) × (List Int)) // o39 = Ctl.next s }) (fun s => [(1, .ptr 1 0), (3, .ptr 3 0), (4, .own 19), (6, .own 29), (7, .own 30), (8, .int v22)]) (fun s => [(1, .box (eMe a0) 74), (3, .box [.int (0 : Int), .int (0 : Int)] 85), (19, .row 1 (List.map eInt s.1.1) 3), (29, .row 1 (List.map eInt s.1.2.1) 3), (30, .row 1 (List.map eInt s.1.2.2) 3)]) (fun Q1034 qn1034 qx1034 qr1034 => ?_) (by intro s; rw [hn]; rfl) ?_
        · refine COk.blkQ fun Q1035 qn1035 qe1035 qx1035 qr1035 => ?_
          refine COk.seqQ fun Q1036 qn1036 qx1036 qr1036 => ?_
          refine god hn (by kernel_rfl) ?_
          obtain ⟨x40, hx41, h38⟩ := bindM h38
          refine ownM hx41 ?_
          refine ldM (nthO_some hx41).2 ?_
          obtain ⟨x42, hx43, h38⟩ := bindM h38
          refine ownM hx43 ?_
          refine ldM (nthO_some hx43).2 ?_
          refine qn1036 _ _ ?_
          refine COk.seqQ fun Q1037 qn1037 qx1037 qr1037 => ?_
          refine COk.seqQ fun Q1038 qn1038 qx1038 qr1038 => ?_
          obtain ⟨o46, h45, h38⟩ := bindM h38
          refine COk.joinR (ι := { s : Bool // o46 = s }) (fun s => [(1, .ptr 1 0), (3, .ptr 3 0), (4, .own 19), (6, .own 29), (7, .own 30), (8, .int v22), (9, .int x40), (10, .int x42), (53, .bool s.1)]) (fun s => [(1, .box (eMe a0) 74), (3, .box [.int (0 : Int), .int (0 : Int)] 85), (19, .row 1 (List.map eInt v19) 3), (29, .row 1 (List.map eInt v20) 3), (30, .row 1 (List.map eInt v21) 3)]) (fun Q1039 qn1039 qx1039 qr1039 => ?_) (by intro s; rw [hn]; rfl) ?_
          · refine COk.sub (ts2 := [(1, .ptr 1 0), (3, .ptr 3 0), (4, .own 19), (6, .own 29), (7, .own 30), (8, .int v22), (9, .int x40), (10, .int x42)]) (os2 := [(1, .box (eMe a0) 74), (3, .box [.int (0 : Int), .int (0 : Int)] 85), (19, .row 1 (List.map eInt v19) 3), (29, .row 1 (List.map eInt v20) 3), (30, .row 1 (List.map eInt v21) 3)]) [] ⟨⟨rfl, rfl, rfl, rfl, rfl, rfl, rfl, rfl, trivial⟩, ⟨rfl, rfl, rfl, rfl, rfl, trivial⟩, rfl, rfl⟩ (by rw [hn]; rfl) ?_
            refine gor hn ?_
            refine lenM (fun hl47 => ?_)
            refine bselM h45 (fun hb48 h45 => ?_) (fun hb48 h45 => ?_)
            · refine bselT hb48 ?_
              refine bselT hb48 ?_
              refine qn1039 _ _ ?_
              obtain rfl := Option.some.inj h45
              refine EOk.done ?_
              exact ⟨⟨_, rfl⟩, [], trivial, ⟨⟨rfl, rfl, rfl, rfl, rfl, rfl, rfl, rfl, rfl, trivial⟩, ⟨rfl, rfl, rfl, rfl, rfl, trivial⟩, rfl, rfl⟩⟩
            · refine bselF hb48 ?_
              refine bselF hb48 ?_
              refine qn1039 _ _ ?_
              obtain rfl := Option.some.inj h45
              refine EOk.done ?_
              exact ⟨⟨_, rfl⟩, [], trivial, ⟨⟨rfl, rfl, rfl, rfl, rfl, rfl, rfl, rfl, rfl, trivial⟩, ⟨rfl, rfl, rfl, rfl, rfl, trivial⟩, rfl, rfl⟩⟩
          rintro ⟨v44, hv_⟩
          replace hv_ := hv_.symm
          subst hv_
          refine qn1038 _ _ ?_
          refine goc hn ?_
          refine bselM h38 (fun hb49 h38 => ?_) (fun hb49 h38 => ?_)
          · refine COk.seqQ fun Q1041 qn1041 qx1041 qr1041 => ?_
            refine god hn (by kernel_rfl) ?_
            refine lenM (fun hl50 => ?_)
            refine qn1041 _ _ ?_
            refine COk.nilrow 2 202 1 3 rfl rfl rfl ?_
            refine got hn ?_
            refine qr1037 _ _ ?_
            refine qr1035 _ _ ?_
            refine qr1034 _ _ ?_
            refine qr972 _ _ ?_
            refine qr969 _ _ ?_
            refine qr968 _ _ ?_
            refine qr967 _ _ ?_
            refine qr587 _ _ ?_
            obtain rfl := Option.some.inj h38
            obtain rfl := Option.some.inj h29
            obtain rfl := Option.some.inj h
            exact ⟨[(0, 202)], _, rfl, (by repeat (first | exact trivial | exact rfl | (refine And.intro ?_ ?_))), ⟨rfl, trivial⟩, rfl, rfl, rfl, rfl, rfl⟩
          · refine gok hn ?_
            refine qn1037 _ _ ?_
            refine COk.seqQ fun Q1042 qn1042 qx1042 qr1042 => ?_
            refine COk.seqQ fun Q1043 qn1043 qx1043 qr1043 => ?_
            refine gor hn ?_
            obtain ⟨x51, hx52, h38⟩ := bindM h38
            refine ownM hx52 ?_
            refine ldM (nthO_some hx52).2 ?_
            refine qn1043 _ _ ?_
            refine goc hn ?_
            refine bselM h38 (fun hb53 h38 => ?_) (fun hb53 h38 => ?_)
            · refine COk.seqQ fun Q1048 qn1048 qx1048 qr1048 => ?_
              refine COk.seqQ fun Q1049 qn1049 qx1049 qr1049 => ?_
              refine gor hn ?_
              obtain ⟨x54, hx55, h38⟩ := bindM h38
              refine ownM hx55 ?_
              refine ldM (nthO_some hx55).2 ?_
              refine qn1049 _ _ ?_
              refine goc hn ?_
              refine bselM h38 (fun hb56 h38 => ?_) (fun hb56 h38 => ?_)
              · refine COk.seqQ fun Q1050 qn1050 qx1050 qr1050 => ?_
                refine COk.sub (ts2 := [(3, .ptr 3 0), (9, .int x40)]) (os2 := [(3, .box [.int (0 : Int), .int (0 : Int)] 85)]) [] ⟨⟨rfl, rfl, trivial⟩, ⟨rfl, trivial⟩, rfl, rfl⟩ (by rw [hn]; rfl) ?_
                refine gor hn ?_
                refine qn1050 _ _ ?_
                refine COk.nilrow 2 202 1 3 rfl rfl rfl ?_
                refine got hn ?_
                refine qr1048 _ _ ?_
                refine qr1042 _ _ ?_
                refine qr1035 _ _ ?_
                refine qr1034 _ _ ?_
                refine qr972 _ _ ?_
                refine qr969 _ _ ?_
                refine qr968 _ _ ?_
                refine qr967 _ _ ?_
                refine qr587 _ _ ?_
                obtain rfl := Option.some.inj h38
                obtain rfl := Option.some.inj h29
                obtain rfl := Option.some.inj h
                exact ⟨[(0, 202)], _, rfl, (by repeat (first | exact trivial | exact rfl | (refine And.intro ?_ ?_))), ⟨rfl, trivial⟩, rfl, rfl, rfl, rfl, rfl⟩
              · refine gok hn ?_
                refine qn1048 _ _ ?_
                refine goe hn ?_
                refine qx1042 _ _ _ ?_
                refine qe1035 _ _ ?_
                refine qn1034 _ _ ?_
                obtain rfl := Option.some.inj h38
                refine EOk.done ?_
                exact ⟨⟨_, rfl⟩, [], trivial, ⟨⟨rfl, rfl, rfl, rfl, rfl, rfl, trivial⟩, ⟨rfl, rfl, rfl, rfl, rfl, trivial⟩, rfl, rfl⟩⟩
            · refine gok hn ?_
              refine qn1042 _ _ ?_
              refine COk.seqQ fun Q1051 qn1051 qx1051 qr1051 => ?_
              refine gor hn ?_
              obtain ⟨x57, hx58, h38⟩ := bindM h38
              refine ownM hx58 ?_
              refine ldM (nthO_some hx58).2 ?_
              refine Exists.intro (List.map eInt (v19.set x40.toNat x42)) (And.intro (leLs_set (nthO_some hx58).2 (by repeat (first | exact trivial | exact rfl | (refine And.intro ?_ ?_)))) ?_)
              refine qn1051 _ _ ?_
              refine COk.seqQ fun Q1052 qn1052 qx1052 qr1052 => ?_
              refine COk.sub (ts2 := [(1, .ptr 1 0), (3, .ptr 3 0), (4, .own 19), (6, .own 29), (7, .own 30), (8, .int v22), (9, .int x40), (10, .int x42)]) (os2 := [(1, .box (eMe a0) 74), (3, .box [.int (0 : Int), .int (0 : Int)] 85), (19, .row 1 (List.map eInt (v19.set x40.toNat x42)) 3), (29, .row 1 (List.map eInt v20) 3), (30, .row 1 (List.map eInt v21) 3)]) [] ⟨⟨rfl, rfl, rfl, rfl, rfl, rfl, rfl, rfl, trivial⟩, ⟨rfl, rfl, rfl, rfl, rfl, trivial⟩, rfl, rfl⟩ (by rw [hn]; rfl) ?_
              refine gor hn ?_
              obtain ⟨x59, hx60, h38⟩ := bindM h38
              refine idxM hx60 ?_
              obtain ⟨r61, hr62, h38⟩ := bindM h38
              show CallOk Try.prog _ _ _ _
              refine CallOk.as ((qcref1_Next_ok N x59 x40 r61 hr62).sw 0 82) (by repeat (first | exact trivial | exact rfl | (refine And.intro ?_ ?_))) trivial rfl ?_
              refine qn1052 _ _ ?_
              refine COk.seqQ fun Q1053 qn1053 qx1053 qr1053 => ?_
              refine COk.seqQ fun Q1054 qn1054 qx1054 qr1054 => ?_
              obtain ⟨o65, h64, h38⟩ := bindM h38
              refine COk.joinR (ι := { s : Bool // o65 = s }) (fun s => [(1, .ptr 1 0), (3, .ptr 3 0), (4, .own 19), (6, .own 29), (7, .own 30), (8, .int v22), (9, .int x40), (10, .int x42), (12, .int r61.2.1), (13, .own 82), (101, .bool s.1)]) (fun s => [(1, .box (eMe a0) 74), (3, .box [.int (0 : Int), .int (0 : Int)] 85), (19, .row 1 (List.map eInt (v19.set x40.toNat x42)) 3), (29, .row 1 (List.map eInt v20) 3), (30, .row 1 (List.map eInt v21) 3), (82, .row 1 (List.map eInt r61.2.2) 3)]) (fun Q1055 qn1055 qx1055 qr1055 => ?_) (by intro s; rw [hn]; rfl) ?_
              · refine COk.sub (ts2 := [(1, .ptr 1 0), (3, .ptr 3 0), (4, .own 19), (6, .own 29), (7, .own 30), (8, .int v22), (9, .int x40), (10, .int x42), (11, .int r61.1), (12, .int r61.2.1), (13, .own 82)]) (os2 := [(1, .box (eMe a0) 74), (3, .box [.int (0 : Int), .int (0 : Int)] 85), (19, .row 1 (List.map eInt (v19.set x40.toNat x42)) 3), (29, .row 1 (List.map eInt v20) 3), (30, .row 1 (List.map eInt v21) 3), (82, .row 1 (List.map eInt r61.2.2) 3)]) [] ⟨⟨rfl, rfl, rfl, rfl, rfl, rfl, rfl, rfl, rfl, rfl, rfl, trivial⟩, ⟨rfl, rfl, rfl, rfl, rfl, rfl, trivial⟩, rfl, rfl⟩ (by rw [hn]; rfl) ?_
                refine gor hn ?_
                refine bselM h64 (fun hb66 h64 => ?_) (fun hb66 h64 => ?_)
                · refine bselT hb66 ?_
                  refine bselT hb66 ?_
                  refine bselT hb66 ?_
                  refine bselT hb66 ?_
                  refine bselT hb66 ?_
                  refine bselT hb66 ?_
                  refine bselT hb66 ?_
                  refine bselT hb66 ?_
                  refine bselT hb66 ?_
                  refine qn1055 _ _ ?_
                  obtain rfl := Option.some.inj h64
                  refine EOk.done ?_
                  exact ⟨⟨_, rfl⟩, [], trivial, ⟨⟨rfl, rfl, rfl, rfl, rfl, rfl, rfl, rfl, rfl, rfl, rfl, trivial⟩, ⟨rfl, rfl, rfl, rfl, rfl, rfl, trivial⟩, rfl, rfl⟩⟩
                · refine bselF hb66 ?_
                  refine bselF hb66 ?_
                  refine bselF hb66 ?_
                  obtain ⟨x67, hx68, h64⟩ := bindM h64
                  refine idxM hx68 ?_
                  refine bselF hb66 ?_
                  refine bselF hb66 ?_
                  refine bselF hb66 ?_
                  refine bselF hb66 ?_
                  refine bselM h64 (fun hb69 h64 => ?_) (fun hb69 h64 => ?_)
                  · refine bselT hb69 ?_
                    refine bselF hb66 ?_
                    refine bselT hb69 ?_
                    refine bselF hb66 ?_
                    refine qn1055 _ _ ?_
                    obtain rfl := Option.some.inj h64
                    refine EOk.done ?_
                    exact ⟨⟨_, rfl⟩, [], trivial, ⟨⟨rfl, rfl, rfl, rfl, rfl, rfl, rfl, rfl, rfl, rfl, rfl, trivial⟩, ⟨rfl, rfl, rfl, rfl, rfl, rfl, trivial⟩, rfl, rfl⟩⟩
                  · refine bselF hb69 ?_
                    refine bselF hb66 ?_
                    refine bselF hb69 ?_
                    refine bselF hb66 ?_
                    refine qn1055 _ _ ?_
                    obtain rfl := Option.some.inj h64
                    refine EOk.done ?_
                    exact ⟨⟨_, rfl⟩, [], trivial, ⟨⟨rfl, rfl, rfl, rfl, rfl, rfl, rfl, rfl, rfl, rfl, rfl, trivial⟩, ⟨rfl, rfl, rfl, rfl, rfl, rfl, trivial⟩, rfl, rfl⟩⟩
              rintro ⟨v63, hv_⟩
              replace hv_ := hv_.symm
              subst hv_
              refine qn1054 _ _ ?_
              refine goc hn ?_
              refine bselM h38 (fun hb70 h38 => ?_) (fun hb70 h38 => ?_)
              · refine COk.seqQ fun Q1057 qn1057 qx1057 qr1057 => ?_
                refine gor hn ?_
                refine qn1057 _ _ ?_
                refine COk.nilrow 2 202 1 3 rfl rfl rfl ?_
                refine got hn ?_
                refine qr1053 _ _ ?_
                refine qr1035 _ _ ?_
                refine qr1034 _ _ ?_
                refine qr972 _ _ ?_
                refine qr969 _ _ ?_
                refine qr968 _ _ ?_
                refine qr967 _ _ ?_
                refine qr587 _ _ ?_
                obtain rfl := Option.some.inj h38
                obtain rfl := Option.some.inj h29
                obtain rfl := Option.some.inj h
                exact ⟨[(0, 202)], _, rfl, (by repeat (first | exact trivial | exact rfl | (refine And.intro ?_ ?_))), ⟨rfl, trivial⟩, rfl, rfl, rfl, rfl, rfl⟩
              · refine gok hn ?_
                refine qn1053 _ _ ?_
                refine COk.seqQ fun Q1058 qn1058 qx1058 qr1058 => ?_
                refine COk.seqQ fun Q1059 qn1059 qx1059 qr1059 => ?_
                refine gor hn ?_
                refine Or.inr ?_
                refine qn1059 _ _ ?_
                refine goc hn ?_
                refine bselM h38 (fun hb71 h38 => ?_) (fun hb71 h38 => ?_)
                · refine COk.seqQ fun Q1061 qn1061 qx1061 qr1061 => ?_
                  refine gor hn ?_
                  refine qn1061 _ _ ?_
                  refine COk.nilrow 2 202 1 3 rfl rfl rfl ?_
                  refine got hn ?_
                  refine qr1058 _ _ ?_
                  refine qr1035 _ _ ?_
                  refine qr1034 _ _ ?_
                  refine qr972 _ _ ?_
                  refine qr969 _ _ ?_
                  refine qr968 _ _ ?_
                  refine qr967 _ _ ?_
                  refine qr587 _ _ ?_
                  obtain rfl := Option.some.inj h38
                  obtain rfl := Option.some.inj h29
                  obtain rfl := Option.some.inj h
                  exact ⟨[(0, 202)], _, rfl, (by repeat (first | exact trivial | exact rfl | (refine And.intro ?_ ?_))), ⟨rfl, trivial⟩, rfl, rfl, rfl, rfl, rfl⟩
                · refine gok hn ?_
                  refine qn1058 _ _ ?_
                  refine COk.seqQ fun Q1062 qn1062 qx1062 qr1062 => ?_
                  refine gor hn ?_
                  refine lenM (fun hl72 => ?_)
                  refine qn1062 _ _ ?_
                  obtain ⟨o80, h81, h38⟩ := bindM h38
                  refine COk.joinR (ι := { s : ((List Int) × (List Int)) // o80 = s }) (fun s => [(1, .ptr 1 0), (3, .ptr 3 0), (4, .own 19), (6, .own 29), (7, .own 30), (8, .int v22)]) (fun s => [(1, .box (eMe a0) 74), (3, .box [.int (0 : Int), .int (0 : Int)] 85), (19, .row 1 (List.map eInt (v19.set x40.toNat x42)) 3), (29, .row 1 (List.map eInt s.1.1) 3), (30, .row 1 (List.map eInt s.1.2) 3)]) (fun Q1084 qn1084 qx1084 qr1084 => ?_) (by intro s; rw [hn]; rfl) ?_
                  · refine COk.blkQ fun Q1085 qn1085 qe1085 qx1085 qr1085 => ?_
                    refine COk.loopQ (ι := { q : ((List Int) × Nat × (List Int) × (List Int)) // q.1 = r61.2.2.drop q.2.1 ∧ qcref1_Heights_l3 N x42 r61 q.1 q.2.1 q.2.2.1 q.2.2.2 = some o80 }) (fun q => [(1, .ptr 1 0), (3, .ptr 3 0), (4, .own 19), (6, .own 29), (7, .own 30), (8, .int v22), (10, .int x42), (12, .int r61.2.1), (110, .own 82), (111, .int (r61.2.2.length : Int)), (112, .int (q.1.2.1 : Int))]) (fun q => [(1, .box (eMe a0) 74), (3, .box [.int (0 : Int), .int (0 : Int)] 85), (19, .row 1 (List.map eInt (v19.set x40.toNat x42)) 3), (29, .row 1 (List.map eInt q.1.2.2.1) 3), (30, .row 1 (List.map eInt q.1.2.2.2) 3), (82, .row 1 (List.map eInt r61.2.2) 3)]) (fun q => q.1.1.length) ⟨(r61.2.2, 0, v20, v21), rfl, h81⟩ [] ⟨⟨rfl, rfl, rfl, rfl, rfl, rfl, rfl, rfl, rfl, rfl, rfl, trivial⟩, ⟨rfl, rfl, rfl, rfl, rfl, rfl, trivial⟩, rfl, rfl⟩ (by intro q; rw [hn]; rfl) ?_
                    rintro ⟨⟨rest_, k73, v74, v75⟩, hd83, h81⟩ Q1086 qn1086 qx1086 qr1086
                    replace hd83 : rest_ = r61.2.2.drop k73 := hd83
                    rcases rest_ with _ | ⟨x85, rest82⟩
                    · have hlt87 := restNil hd83
                      replace h81 := (qcref1_Heights_l3.eq_1 _ _ _ _ _ _).symm.trans h81
                      refine COk.seqQ fun Q1087 qn1087 qx1087 qr1087 => ?_
                      refine gor hn ?_
                      refine qn1087 _ _ ?_
                      refine COk.seqQ fun Q1088 qn1088 qx1088 qr1088 => ?_
                      refine goc hn ?_
                      refine bselF hlt87 ?_
                      refine goe hn ?_
                      refine qx1088 _ _ _ ?_
                      refine qx1086 _ _ _ ?_
                      refine qe1085 _ _ ?_
                      refine qn1084 _ _ ?_
                      obtain rfl := Option.some.inj h81
                      refine EOk.done ?_
                      exact ⟨⟨_, rfl⟩, [], trivial, ⟨⟨rfl, rfl, rfl, rfl, rfl, rfl, trivial⟩, ⟨rfl, rfl, rfl, rfl, rfl, trivial⟩, rfl, rfl⟩⟩
                    · obtain ⟨hx86, hd2, hlt87⟩ := restCons hd83
                      replace h81 := (qcref1_Heights_l3.eq_2 _ _ _ _ _ _ _ _).symm.trans h81
                      refine COk.seqQ fun Q1089 qn1089 qx1089 qr1089 => ?_
                      refine gor hn ?_
                      refine qn1089 _ _ ?_
                      refine COk.seqQ fun Q1090 qn1090 qx1090 qr1090 => ?_
                      refine goc hn ?_
                      refine bselT hlt87 ?_
                      refine gok hn ?_
                      refine qn1090 _ _ ?_
                      refine COk.seqQ fun Q1091 qn1091 qx1091 qr1091 => ?_
                      refine COk.blkQ fun Q1094 qn1094 qe1094 qx1094 qr1094 => ?_
                      refine COk.seqQ fun Q1095 qn1095 qx1095 qr1095 => ?_
                      refine gor hn ?_
                      obtain ⟨x88, hx89, h81⟩ := bindM h81
                      refine ownM hx89 ?_
                      refine ldM (nthO_some hx89).2 ?_
                      refine qn1095 _ _ ?_
                      refine gor hn ?_
                      refine Exists.intro (List.map eInt [x88]) (And.intro (by repeat (first | exact trivial | exact rfl | (refine And.intro ?_ ?_))) ?_)
                      obtain ⟨hg90, h81⟩ := guardM h81
                      refine appM (l2 := [x88]) hg90 (leLs_refl _) ?_
                      refine Or.inr ?_
                      refine Exists.intro (List.map eInt [(wr (x42 + r61.2.1))]) (And.intro (by repeat (first | exact trivial | exact rfl | (refine And.intro ?_ ?_))) ?_)
                      obtain ⟨hg91, h81⟩ := guardM h81
                      refine appM (l2 := [(wr (x42 + r61.2.1))]) hg91 (leLs_refl _) ?_
                      refine qn1094 _ _ ?_
                      refine qn1091 _ _ ?_
                      refine COk.sub (ts2 := [(1, .ptr 1 0), (3, .ptr 3 0), (4, .own 19), (6, .own 119), (7, .own 125), (8, .int v22), (10, .int x42), (12, .int r61.2.1), (110, .own 82), (111, .int (r61.2.2.length : Int)), (112, .int (k73 : Int))]) (os2 := [(1, .box (eMe a0) 74), (3, .box [.int (0 : Int), .int (0 : Int)] 85), (19, .row 1 (List.map eInt (v19.set x40.toNat x42)) 3), (82, .row 1 (List.map eInt r61.2.2) 3), (119, .row 1 (List.map eInt (v74 ++ [x88])) 3), (125, .row 1 (List.map eInt (v75 ++ [(wr (x42 + r61.2.1))])) 3)]) [] ⟨⟨rfl, rfl, rfl, rfl, rfl, rfl, rfl, rfl, rfl, rfl, rfl, trivial⟩, ⟨rfl, rfl, rfl, rfl, rfl, rfl, trivial⟩, rfl, rfl⟩ (by rw [hn]; rfl) ?_
                      refine gor hn ?_
                      refine Or.inl (And.intro (inrK hx86 hl72) ?_)
                      refine qn1086 _ _ ?_
                      refine EOk.done ?_
                      exact ⟨⟨(rest82, k73 + 1, (v74 ++ [x88]), (v75 ++ [(wr (x42 + r61.2.1))])), hd2, h81⟩, [(29, 119), (30, 125)], by show rest82.length < rest82.length + 1; omega, ⟨⟨rfl, rfl, rfl, rfl, rfl, rfl, rfl, rfl, rfl, rfl, rfl, trivial⟩, ⟨rfl, rfl, rfl, rfl, rfl, rfl, trivial⟩, rfl, rfl⟩⟩
                  rintro ⟨⟨v78, v79⟩, rfl⟩
                  refine qn1035 _ _ ?_
                  refine qn1034 _ _ ?_
                  obtain rfl := Option.some.inj h38
                  refine EOk.done ?_
                  exact ⟨⟨_, rfl⟩, [], trivial, ⟨⟨rfl, rfl, rfl, rfl, rfl, rfl, trivial⟩, ⟨rfl, rfl, rfl, rfl, rfl, trivial⟩, rfl, rfl⟩⟩
        rintro ⟨⟨v35, v36, v37⟩, rfl⟩
        refine qn972 _ _ ?_
        refine gor hn ?_
        refine Or.inr ?_
        refine qn969 _ _ ?_
        refine EOk.done ?_
        exact ⟨⟨(n32, v35, v36, v37, (wr (v22 + (1 : Int)))), h29⟩, [], by show n32 < n32 + 1; omega, ⟨⟨rfl, rfl, rfl, rfl, rfl, rfl, trivial⟩, ⟨rfl, rfl, rfl, rfl, rfl, trivial⟩, rfl, rfl⟩⟩
      · refine goe hn ?_
        refine qx970 _ _ _ ?_
        refine qx969 _ _ _ ?_
        refine qe968 _ _ ?_
        refine qn967 _ _ ?_
        obtain rfl := Option.some.inj h29
        refine EOk.done ?_
        exact ⟨⟨_, rfl⟩, [], trivial, ⟨⟨rfl, rfl, trivial⟩, ⟨rfl, rfl, trivial⟩, rfl, rfl⟩⟩
  rintro ⟨v27, rfl⟩
  refine qn587 _ _ ?_
  refine COk.seqQ fun Q1096 qn1096 qx1096 qr1096 => ?_
  refine gor hn ?_
  refine qn1096 _ _ ?_
  refine got hn ?_
  obtain rfl := Option.some.inj h
  exact ⟨[(0, 19)], _, rfl, (by repeat (first | exact trivial | exact rfl | (refine And.intro ?_ ?_))), ⟨rfl, trivial⟩, rfl, rfl, rfl, rfl, rfl⟩

/- qcref1.Check -/
set_option maxRecDepth 100000 in
set_option maxHeartbeats 1000000 in
theorem qcref1_Check_ok (N : Nat) (a0 : Wd) (a1 : Int) (a2 : Me) (r : TFault) (h : qcref1_Check N a0 a1 a2 = some r) : Spec Try.prog 49 [] [.agg (eWd a0), .int a1, .agg (eMe a2)] (.agg (eTFault r)) [] [] := by
  refine Spec.of tabOk Try.func49 rfl Try.ntmps49 (by kernel_rfl) rfl rfl rfl fun Γ hn => ?_
  unfold qcref1_Check at h
  refine COk.seqQ fun Q70 qn70 qx70 qr70 => ?_
  refine gor hn ?_
  refine qn70 _ _ ?_
  refine COk.seqQ fun Q71 qn71 qx71 qr71 => ?_
  refine COk.seqQ fun Q72 qn72 qx72 qr72 => ?_
  obtain ⟨o3, h2, h⟩ := bindM h
  refine COk.joinR (ι := { s : Bool // o3 = s }) (fun s => [(1, .int a1), (3, .ptr 3 0), (5, .ptr 5 0), (6, .ptr 6 0), (20, .bool s.1)]) (fun s => [(3, .box (eWd a0) 55), (5, .box (eMe a2) 74), (6, .box [.int (0 : Int), .int (0 : Int)] 85)]) (fun Q73 qn73 qx73 qr73 => ?_) (by intro s; rw [hn]; rfl) ?_
  · refine gor hn ?_
    refine bselM h2 (fun hb4 h2 => ?_) (fun hb4 h2 => ?_)
    · refine bselT hb4 ?_
      refine bselT hb4 ?_
      refine bselT hb4 ?_
      refine bselT hb4 ?_
      refine bselT hb4 ?_
      refine qn73 _ _ ?_
      obtain rfl := Option.some.inj h2
      refine EOk.done ?_
      exact ⟨⟨_, rfl⟩, [], trivial, ⟨⟨rfl, rfl, rfl, rfl, rfl, trivial⟩, ⟨rfl, rfl, rfl, trivial⟩, rfl, rfl⟩⟩
    · refine bselF hb4 ?_
      refine bselF hb4 ?_
      refine bselF hb4 ?_
      refine lenM (fun hl5 => ?_)
      refine bselF hb4 ?_
      refine bselF hb4 ?_
      refine qn73 _ _ ?_
      obtain rfl := Option.some.inj h2
      refine EOk.done ?_
      exact ⟨⟨_, rfl⟩, [], trivial, ⟨⟨rfl, rfl, rfl, rfl, rfl, trivial⟩, ⟨rfl, rfl, rfl, trivial⟩, rfl, rfl⟩⟩
  rintro ⟨v1, hv_⟩
  replace hv_ := hv_.symm
  subst hv_
  refine qn72 _ _ ?_
  refine goc hn ?_
  refine bselM h (fun hb6 h => ?_) (fun hb6 h => ?_)
  · refine COk.seqQ fun Q75 qn75 qx75 qr75 => ?_
    refine gor hn ?_
    refine qn75 _ _ ?_
    refine got hn ?_
    refine qr71 _ _ ?_
    obtain rfl := Option.some.inj h
    exact ⟨[], _, rfl, (by repeat (first | exact trivial | exact rfl | (refine And.intro ?_ ?_))), trivial, rfl, rfl, rfl, rfl, rfl⟩
  · refine gok hn ?_
    refine qn71 _ _ ?_
    refine COk.seqQ fun Q76 qn76 qx76 qr76 => ?_
    refine COk.seqQ fun Q77 qn77 qx77 qr77 => ?_
    refine gor hn ?_
    obtain ⟨r7, hr8, h⟩ := bindM h
    show CallOk Try.prog _ _ _ _
    refine CallOk.as (qcref1_Name_ok N a2.name r7 hr8) (by repeat (first | exact trivial | exact rfl | (refine And.intro ?_ ?_))) trivial rfl ?_
    refine qn77 _ _ ?_
    refine goc hn ?_
    refine bselM h (fun hb9 h => ?_) (fun hb9 h => ?_)
    · refine COk.seqQ fun Q79 qn79 qx79 qr79 => ?_
      refine gor hn ?_
      refine qn79 _ _ ?_
      refine got hn ?_
      refine qr76 _ _ ?_
      obtain rfl := Option.some.inj h
      exact ⟨[], _, rfl, (by repeat (first | exact trivial | exact rfl | (refine And.intro ?_ ?_))), trivial, rfl, rfl, rfl, rfl, rfl⟩
    · refine gok hn ?_
      refine qn76 _ _ ?_
      refine COk.seqQ fun Q80 qn80 qx80 qr80 => ?_
      refine COk.seqQ fun Q81 qn81 qx81 qr81 => ?_
      obtain ⟨o12, h11, h⟩ := bindM h
      refine COk.joinR (ι := { s : Bool // o12 = s }) (fun s => [(1, .int a1), (3, .ptr 3 0), (5, .ptr 5 0), (6, .ptr 6 0), (44, .bool s.1)]) (fun s => [(3, .box (eWd a0) 55), (5, .box (eMe a2) 74), (6, .box [.int (0 : Int), .int (0 : Int)] 85)]) (fun Q82 qn82 qx82 qr82 => ?_) (by intro s; rw [hn]; rfl) ?_
      · refine gor hn ?_
        refine bselM h11 (fun hb13 h11 => ?_) (fun hb13 h11 => ?_)
        · refine bselT hb13 ?_
          refine bselT hb13 ?_
          refine bselT hb13 ?_
          refine qn82 _ _ ?_
          obtain rfl := Option.some.inj h11
          refine EOk.done ?_
          exact ⟨⟨_, rfl⟩, [], trivial, ⟨⟨rfl, rfl, rfl, rfl, rfl, trivial⟩, ⟨rfl, rfl, rfl, trivial⟩, rfl, rfl⟩⟩
        · refine bselF hb13 ?_
          refine bselF hb13 ?_
          refine bselF hb13 ?_
          refine bselM h11 (fun hb14 h11 => ?_) (fun hb14 h11 => ?_)
          · refine bselT hb14 ?_
            refine bselT hb14 ?_
            refine bselT hb14 ?_
            refine qn82 _ _ ?_
            obtain rfl := Option.some.inj h11
            refine EOk.done ?_
            exact ⟨⟨_, rfl⟩, [], trivial, ⟨⟨rfl, rfl, rfl, rfl, rfl, trivial⟩, ⟨rfl, rfl, rfl, trivial⟩, rfl, rfl⟩⟩
          · refine bselF hb14 ?_
            refine bselF hb14 ?_
            refine bselF hb14 ?_
            refine bselM h11 (fun hb15 h11 => ?_) (fun hb15 h11 => ?_)
            · refine bselT hb15 ?_
              refine bselT hb15 ?_
              refine bselT hb15 ?_
              refine qn82 _ _ ?_
              obtain rfl := Option.some.inj h11
              refine EOk.done ?_
              exact ⟨⟨_, rfl⟩, [], trivial, ⟨⟨rfl, rfl, rfl, rfl, rfl, trivial⟩, ⟨rfl, rfl, rfl, trivial⟩, rfl, rfl⟩⟩
            · refine bselF hb15 ?_
              refine bselF hb15 ?_
              refine bselF hb15 ?_
              refine qn82 _ _ ?_
              obtain rfl := Option.some.inj h11
              refine EOk.done ?_
              exact ⟨⟨_, rfl⟩, [], trivial, ⟨⟨rfl, rfl, rfl, rfl, rfl, trivial⟩, ⟨rfl, rfl, rfl, trivial⟩, rfl, rfl⟩⟩
      rintro ⟨v10, hv_⟩
      replace hv_ := hv_.symm
      subst hv_
      refine qn81 _ _ ?_
      refine goc hn ?_
      refine bselM h (fun hb16 h => ?_) (fun hb16 h => ?_)
      · refine COk.seqQ fun Q84 qn84 qx84 qr84 => ?_
        refine gor hn ?_
        refine qn84 _ _ ?_
        refine got hn ?_
        refine qr80 _ _ ?_
        obtain rfl := Option.some.inj h
        exact ⟨[], _, rfl, (by repeat (first | exact trivial | exact rfl | (refine And.intro ?_ ?_))), trivial, rfl, rfl, rfl, rfl, rfl⟩
      · refine gok hn ?_
        refine qn80 _ _ ?_
        refine COk.seqQ fun Q85 qn85 qx85 qr85 => ?_
        refine COk.seqQ fun Q86 qn86 qx86 qr86 => ?_
        refine gor hn ?_
        refine qn86 _ _ ?_
        refine goc hn ?_
        refine bselM h (fun hb17 h => ?_) (fun hb17 h => ?_)
        · refine COk.seqQ fun Q88 qn88 qx88 qr88 => ?_
          refine gor hn ?_
          refine qn88 _ _ ?_
          refine got hn ?_
          refine qr85 _ _ ?_
          obtain rfl := Option.some.inj h
          exact ⟨[], _, rfl, (by repeat (first | exact trivial | exact rfl | (refine And.intro ?_ ?_))), trivial, rfl, rfl, rfl, rfl, rfl⟩
        · refine gok hn ?_
          refine qn85 _ _ ?_
          refine COk.seqQ fun Q89 qn89 qx89 qr89 => ?_
          refine COk.seqQ fun Q90 qn90 qx90 qr90 => ?_
          obtain ⟨o20, h19, h⟩ := bindM h
          refine COk.joinR (ι := { s : Bool // o20 = s }) (fun s => [(1, .int a1), (3, .ptr 3 0), (5, .ptr 5 0), (6, .ptr 6 0), (59, .bool s.1)]) (fun s => [(3, .box (eWd a0) 55), (5, .box (eMe a2) 74), (6, .box [.int (0 : Int), .int (0 : Int)] 85)]) (fun Q91 qn91 qx91 qr91 => ?_) (by intro s; rw [hn]; rfl) ?_
          · refine gor hn ?_
            refine lenM (fun hl21 => ?_)
            refine bselM h19 (fun hb22 h19 => ?_) (fun hb22 h19 => ?_)
            · refine bselT hb22 ?_
              refine bselT hb22 ?_
              refine bselT hb22 ?_
              refine bselT hb22 ?_
              refine qn91 _ _ ?_
              obtain rfl := Option.some.inj h19
              refine EOk.done ?_
              exact ⟨⟨_, rfl⟩, [], trivial, ⟨⟨rfl, rfl, rfl, rfl, rfl, trivial⟩, ⟨rfl, rfl, rfl, trivial⟩, rfl, rfl⟩⟩
            · refine bselF hb22 ?_
              refine bselF hb22 ?_
              refine lenM (fun hl23 => ?_)
              refine bselF hb22 ?_
              refine bselF hb22 ?_
              refine qn91 _ _ ?_
              obtain rfl := Option.some.inj h19
              refine EOk.done ?_
              exact ⟨⟨_, rfl⟩, [], trivial, ⟨⟨rfl, rfl, rfl, rfl, rfl, trivial⟩, ⟨rfl, rfl, rfl, trivial⟩, rfl, rfl⟩⟩
          rintro ⟨v18, hv_⟩
          replace hv_ := hv_.symm
          subst hv_
          refine qn90 _ _ ?_
          refine goc hn ?_
          refine bselM h (fun hb24 h => ?_) (fun hb24 h => ?_)
          · refine COk.seqQ fun Q93 qn93 qx93 qr93 => ?_
            refine gor hn ?_
            refine qn93 _ _ ?_
            refine got hn ?_
            refine qr89 _ _ ?_
            obtain rfl := Option.some.inj h
            exact ⟨[], _, rfl, (by repeat (first | exact trivial | exact rfl | (refine And.intro ?_ ?_))), trivial, rfl, rfl, rfl, rfl, rfl⟩
          · refine gok hn ?_
            refine qn89 _ _ ?_
            refine COk.seqQ fun Q94 qn94 qx94 qr94 => ?_
            refine COk.seqQ fun Q95 qn95 qx95 qr95 => ?_
            refine gor hn ?_
            refine lenM (fun hl25 => ?_)
            refine qn95 _ _ ?_
            obtain ⟨o27, h28, h⟩ := bindM h
            refine COk.joinR (ι := { s : Unit // o27 = Ctl.next s }) (fun s => [(5, .ptr 5 0), (6, .ptr 6 0)]) (fun s => [(5, .box (eMe a2) 74), (6, .box [.int (0 : Int), .int (0 : Int)] 85)]) (fun Q118 qn118 qx118 qr118 => ?_) (by intro s; rw [hn]; rfl) ?_
            · refine COk.blkQ fun Q119 qn119 qe119 qx119 qr119 => ?_
              refine COk.loopQ (ι := { q : ((List Ins) × Nat) // q.1 = a2.code.drop q.2 ∧ qcref1_Check_l1 N a0 a1 a2 q.1 q.2 = some o27 }) (fun q => [(1, .int a1), (3, .ptr 3 0), (5, .ptr 5 0), (6, .ptr 6 0), (62, .sl 5 (List.map eIns a2.code)), (63, .int (a2.code.length : Int)), (64, .int (q.1.2 : Int))]) (fun q => [(3, .box (eWd a0) 55), (5, .box (eMe a2) 74), (6, .box [.int (0 : Int), .int (0 : Int)] 85)]) (fun q => q.1.1.length) ⟨(a2.code, 0), rfl, h28⟩ [] ⟨⟨rfl, rfl, rfl, rfl, (by repeat (first | exact trivial | exact rfl | (refine And.intro ?_ ?_))), rfl, rfl, trivial⟩, ⟨rfl, rfl, rfl, trivial⟩, rfl, rfl⟩ (by intro q; rw [hn]; rfl) ?_
              rintro ⟨⟨rest_, k26⟩, hd30, h28⟩ Q120 qn120 qx120 qr120
              replace hd30 : rest_ = a2.code.drop k26 := hd30
              rcases rest_ with _ | ⟨x32, rest29⟩
              · have hlt34 := restNil hd30
                replace h28 := (qcref1_Check_l1.eq_1 _ _ _ _ _).symm.trans h28
                refine COk.seqQ fun Q121 qn121 qx121 qr121 => ?_
                refine gor hn ?_
                refine qn121 _ _ ?_
                refine COk.seqQ fun Q122 qn122 qx122 qr122 => ?_
                refine goc hn ?_
                refine bselF hlt34 ?_
                refine goe hn ?_
                refine qx122 _ _ _ ?_
                refine qx120 _ _ _ ?_
                refine qe119 _ _ ?_
                refine qn118 _ _ ?_
                obtain rfl := Option.some.inj h28
                refine EOk.done ?_
                exact ⟨⟨_, rfl⟩, [], trivial, ⟨⟨rfl, rfl, trivial⟩, ⟨rfl, rfl, trivial⟩, rfl, rfl⟩⟩
              · obtain ⟨hx33, hd2, hlt34⟩ := restCons hd30
                replace h28 := (qcref1_Check_l1.eq_2 _ _ _ _ _ _ _).symm.trans h28
                refine COk.seqQ fun Q123 qn123 qx123 qr123 => ?_
                refine gor hn ?_
                refine qn123 _ _ ?_
                refine COk.seqQ fun Q124 qn124 qx124 qr124 => ?_
                refine goc hn ?_
                refine bselT hlt34 ?_
                refine gok hn ?_
                refine qn124 _ _ ?_
                refine COk.seqQ fun Q125 qn125 qx125 qr125 => ?_
                refine COk.blkQ fun Q132 qn132 qe132 qx132 qr132 => ?_
                refine COk.seqQ fun Q133 qn133 qx133 qr133 => ?_
                refine gor hn ?_
                refine idxK hx33 ?_
                refine qn133 _ _ ?_
                refine COk.seqQ fun Q134 qn134 qx134 qr134 => ?_
                refine gor hn ?_
                obtain ⟨r35, hr36, h28⟩ := bindM h28
                show CallOk Try.prog _ _ _ _
                refine CallOk.as (qcref1_Numbers_ok N a0 a1 a2 x32 r35 hr36) (by repeat (first | exact trivial | exact rfl | (refine And.intro ?_ ?_))) trivial rfl ?_
                refine qn134 _ _ ?_
                refine COk.seqQ fun Q135 qn135 qx135 qr135 => ?_
                refine COk.sub (ts2 := [(1, .int a1), (3, .ptr 3 0), (5, .ptr 5 0), (6, .ptr 6 0), (7, .int (k26 : Int)), (9, .int r35), (62, .sl 5 (List.map eIns a2.code)), (63, .int (a2.code.length : Int)), (64, .int (k26 : Int))]) (os2 := [(3, .box (eWd a0) 55), (5, .box (eMe a2) 74), (6, .box [.int (0 : Int), .int (0 : Int)] 85)]) [] ⟨⟨rfl, rfl, rfl, rfl, rfl, rfl, (by repeat (first | exact trivial | exact rfl | (refine And.intro ?_ ?_))), rfl, rfl, trivial⟩, ⟨rfl, rfl, rfl, trivial⟩, rfl, rfl⟩ (by rw [hn]; rfl) ?_
                refine gor hn ?_
                refine qn135 _ _ ?_
                refine goc hn ?_
                refine bselM h28 (fun hb37 h28 => ?_) (fun hb37 h28 => ?_)
                · refine COk.seqQ fun Q136 qn136 qx136 qr136 => ?_
                  refine gor hn ?_
                  refine qn136 _ _ ?_
                  refine got hn ?_
                  refine qr132 _ _ ?_
                  refine qr125 _ _ ?_
                  refine qr120 _ _ ?_
                  refine qr119 _ _ ?_
                  refine qr118 _ _ ?_
                  refine qr94 _ _ ?_
                  obtain rfl := Option.some.inj h28
                  obtain rfl := Option.some.inj h
                  exact ⟨[], _, rfl, (by repeat (first | exact trivial | exact rfl | (refine And.intro ?_ ?_))), trivial, rfl, rfl, rfl, rfl, rfl⟩
                · refine gok hn ?_
                  refine qn132 _ _ ?_
                  refine qn125 _ _ ?_
                  refine gor hn ?_
                  refine Or.inl (And.intro (inrK hx33 hl25) ?_)
                  refine qn120 _ _ ?_
                  refine EOk.done ?_
                  exact ⟨⟨(rest29, k26 + 1), hd2, h28⟩, [], by show rest29.length < rest29.length + 1; omega, ⟨⟨rfl, rfl, rfl, rfl, (by repeat (first | exact trivial | exact rfl | (refine And.intro ?_ ?_))), rfl, rfl, trivial⟩, ⟨rfl, rfl, rfl, trivial⟩, rfl, rfl⟩⟩
            rintro ⟨⟨⟩, rfl⟩
            refine qn94 _ _ ?_
            refine COk.seqQ fun Q137 qn137 qx137 qr137 => ?_
            refine gor hn ?_
            obtain ⟨r38, hr39, h⟩ := bindM h
            show CallOk Try.prog _ _ _ _
            refine CallOk.as ((qcref1_Heights_ok N a2 r38 hr39).sw 0 82) (by repeat (first | exact trivial | exact rfl | (refine And.intro ?_ ?_))) trivial rfl ?_
            refine qn137 _ _ ?_
            refine COk.seqQ fun Q138 qn138 qx138 qr138 => ?_
            refine gor hn ?_
            refine qn138 _ _ ?_
            refine got hn ?_
            obtain rfl := Option.some.inj h
            exact ⟨[], _, rfl, (by repeat (first | exact trivial | exact rfl | (refine And.intro ?_ ?_))), trivial, rfl, rfl, rfl, rfl, rfl⟩

/- qcref1.Rises -/
set_option maxRecDepth 100000 in
set_option maxHeartbeats 1000000 in
theorem qcref1_Rises_ok (N : Nat) (a0 : Wd) (r : Bool) (h : qcref1_Rises N a0 = some r) : Spec Try.prog 47 [] [.agg (eWd a0)] (.bool r) [] [] := by
  refine Spec.of tabOk Try.func47 rfl Try.ntmps47 (by kernel_rfl) rfl rfl rfl fun Γ hn => ?_
  unfold qcref1_Rises at h
  refine COk.seqQ fun Q291 qn291 qx291 qr291 => ?_
  refine gor hn ?_
  refine qn291 _ _ ?_
  refine COk.seqQ fun Q292 qn292 qx292 qr292 => ?_
  refine COk.seqQ fun Q293 qn293 qx293 qr293 => ?_
  refine gor hn ?_
  refine lenM (fun hl1 => ?_)
  refine qn293 _ _ ?_
  obtain ⟨o3, h4, h⟩ := bindM h
  refine COk.joinR (ι := { s : Unit // o3 = Ctl.next s }) (fun s => []) (fun s => []) (fun Q496 qn496 qx496 qr496 => ?_) (by intro s; rw [hn]; rfl) ?_
  · refine COk.blkQ fun Q497 qn497 qe497 qx497 qr497 => ?_
    refine COk.loopQ (ι := { q : ((List Cl) × Nat) // q.1 = a0.classes.drop q.2 ∧ qcref1_Rises_l1 N q.1 q.2 = some o3 }) (fun q => [(7, .sl 4 (List.map eCl a0.classes)), (8, .int (a0.classes.length : Int)), (9, .int (q.1.2 : Int))]) (fun q => []) (fun q => q.1.1.length) ⟨(a0.classes, 0), rfl, h4⟩ [] ⟨⟨(by repeat (first | exact trivial | exact rfl | (refine And.intro ?_ ?_))), rfl, rfl, trivial⟩, trivial, rfl, rfl⟩ (by intro q; rw [hn]; rfl) ?_
    rintro ⟨⟨rest_, k2⟩, hd6, h4⟩ Q498 qn498 qx498 qr498
    replace hd6 : rest_ = a0.classes.drop k2 := hd6
    rcases rest_ with _ | ⟨x8, rest5⟩
    · have hlt10 := restNil hd6
      replace h4 := (qcref1_Rises_l1.eq_1 _ _).symm.trans h4
      refine COk.seqQ fun Q499 qn499 qx499 qr499 => ?_
      refine gor hn ?_
      refine qn499 _ _ ?_
      refine COk.seqQ fun Q500 qn500 qx500 qr500 => ?_
      refine goc hn ?_
      refine bselF hlt10 ?_
      refine goe hn ?_
      refine qx500 _ _ _ ?_
      refine qx498 _ _ _ ?_
      refine qe497 _ _ ?_
      refine qn496 _ _ ?_
      obtain rfl := Option.some.inj h4
      refine EOk.done ?_
      exact ⟨⟨_, rfl⟩, [], trivial, ⟨trivial, trivial, rfl, rfl⟩⟩
    · obtain ⟨hx9, hd2, hlt10⟩ := restCons hd6
      replace h4 := (qcref1_Rises_l1.eq_2 _ _ _ _).symm.trans h4
      refine COk.seqQ fun Q501 qn501 qx501 qr501 => ?_
      refine gor hn ?_
      refine qn501 _ _ ?_
      refine COk.seqQ fun Q502 qn502 qx502 qr502 => ?_
      refine goc hn ?_
      refine bselT hlt10 ?_
      refine gok hn ?_
      refine qn502 _ _ ?_
      refine COk.seqQ fun Q503 qn503 qx503 qr503 => ?_
      refine COk.blkQ fun Q548 qn548 qe548 qx548 qr548 => ?_
      refine COk.seqQ fun Q549 qn549 qx549 qr549 => ?_
      refine gor hn ?_
      refine idxK hx9 ?_
      refine qn549 _ _ ?_
      refine COk.seqQ fun Q550 qn550 qx550 qr550 => ?_
      refine gor hn ?_
      refine lenM (fun hl11 => ?_)
      refine qn550 _ _ ?_
      obtain ⟨o13, h14, h4⟩ := bindM h4
      refine COk.joinR (ι := { s : Unit // o13 = Ctl.next s }) (fun s => [(7, .sl 4 (List.map eCl a0.classes)), (8, .int (a0.classes.length : Int)), (9, .int (k2 : Int))]) (fun s => []) (fun Q567 qn567 qx567 qr567 => ?_) (by intro s; rw [hn]; rfl) ?_
      · refine COk.blkQ fun Q568 qn568 qe568 qx568 qr568 => ?_
        refine COk.loopQ (ι := { q : ((List Me) × Nat) // q.1 = x8.methods.drop q.2 ∧ qcref1_Rises_l2 N x8 q.1 q.2 = some o13 }) (fun q => [(4, .ptr 4 0), (7, .sl 4 (List.map eCl a0.classes)), (8, .int (a0.classes.length : Int)), (9, .int (k2 : Int)), (15, .int (x8.methods.length : Int)), (16, .int (q.1.2 : Int))]) (fun q => [(4, .box (eCl x8) 71)]) (fun q => q.1.1.length) ⟨(x8.methods, 0), rfl, h14⟩ [] ⟨⟨rfl, (by repeat (first | exact trivial | exact rfl | (refine And.intro ?_ ?_))), rfl, rfl, rfl, rfl, trivial⟩, ⟨rfl, trivial⟩, rfl, rfl⟩ (by intro q; rw [hn]; rfl) ?_
        rintro ⟨⟨rest_, k12⟩, hd16, h14⟩ Q569 qn569 qx569 qr569
        replace hd16 : rest_ = x8.methods.drop k12 := hd16
        rcases rest_ with _ | ⟨x18, rest15⟩
        · have hlt20 := restNil hd16
          replace h14 := (qcref1_Rises_l2.eq_1 _ _ _).symm.trans h14
          refine COk.seqQ fun Q570 qn570 qx570 qr570 => ?_
          refine gor hn ?_
          refine qn570 _ _ ?_
          refine COk.seqQ fun Q571 qn571 qx571 qr571 => ?_
          refine goc hn ?_
          refine bselF hlt20 ?_
          refine goe hn ?_
          refine qx571 _ _ _ ?_
          refine qx569 _ _ _ ?_
          refine qe568 _ _ ?_
          refine qn567 _ _ ?_
          obtain rfl := Option.some.inj h14
          refine EOk.done ?_
          exact ⟨⟨_, rfl⟩, [], trivial, ⟨⟨(by repeat (first | exact trivial | exact rfl | (refine And.intro ?_ ?_))), rfl, rfl, trivial⟩, trivial, rfl, rfl⟩⟩
        · obtain ⟨hx19, hd2, hlt20⟩ := restCons hd16
          replace h14 := (qcref1_Rises_l2.eq_2 _ _ _ _ _).symm.trans h14
          refine COk.seqQ fun Q572 qn572 qx572 qr572 => ?_
          refine gor hn ?_
          refine qn572 _ _ ?_
          refine COk.seqQ fun Q573 qn573 qx573 qr573 => ?_
          refine goc hn ?_
          refine bselT hlt20 ?_
          refine gok hn ?_
          refine qn573 _ _ ?_
          refine COk.seqQ fun Q574 qn574 qx574 qr574 => ?_
          refine COk.blkQ fun Q575 qn575 qe575 qx575 qr575 => ?_
          refine COk.seqQ fun Q576 qn576 qx576 qr576 => ?_
          refine gor hn ?_
          refine qn576 _ _ ?_
          refine COk.seqQ fun Q577 qn577 qx577 qr577 => ?_
          obtain ⟨o23, h22, h14⟩ := bindM h14
          refine COk.joinR (ι := { s : Bool // o23 = s }) (fun s => [(4, .ptr 4 0), (7, .sl 4 (List.map eCl a0.classes)), (8, .int (a0.classes.length : Int)), (9, .int (k2 : Int)), (15, .int (x8.methods.length : Int)), (16, .int (k12 : Int)), (36, .bool s.1)]) (fun s => [(4, .box (eCl x8) 71)]) (fun Q578 qn578 qx578 qr578 => ?_) (by intro s; rw [hn]; rfl) ?_
          · refine COk.sub (ts2 := [(4, .ptr 4 0), (5, .int (k12 : Int)), (7, .sl 4 (List.map eCl a0.classes)), (8, .int (a0.classes.length : Int)), (9, .int (k2 : Int)), (15, .int (x8.methods.length : Int)), (16, .int (k12 : Int))]) (os2 := [(4, .box (eCl x8) 71)]) [] ⟨⟨rfl, rfl, (by repeat (first | exact trivial | exact rfl | (refine And.intro ?_ ?_))), rfl, rfl, rfl, rfl, trivial⟩, ⟨rfl, trivial⟩, rfl, rfl⟩ (by rw [hn]; rfl) ?_
            refine god hn (by kernel_rfl) ?_
            refine bselM h22 (fun hb24 h22 => ?_) (fun hb24 h22 => ?_)
            · refine bselT hb24 ?_
              refine bselT hb24 ?_
              refine bselT hb24 ?_
              refine Or.inr ?_
              refine bselT hb24 ?_
              obtain ⟨x25, hx26, h22⟩ := bindM h22
              refine idxM hx26 ?_
              refine bselT hb24 ?_
              refine bselT hb24 ?_
              refine bselT hb24 ?_
              refine bselT hb24 ?_
              refine bselT hb24 ?_
              refine bselT hb24 ?_
              refine idxK hx19 ?_
              refine bselT hb24 ?_
              refine bselT hb24 ?_
              refine bselT hb24 ?_
              refine bselT hb24 ?_
              refine qn578 _ _ ?_
              obtain rfl := Option.some.inj h22
              refine EOk.done ?_
              exact ⟨⟨_, rfl⟩, [], trivial, ⟨⟨rfl, (by repeat (first | exact trivial | exact rfl | (refine And.intro ?_ ?_))), rfl, rfl, rfl, rfl, rfl, trivial⟩, ⟨rfl, trivial⟩, rfl, rfl⟩⟩
            · refine bselF hb24 ?_
              refine bselF hb24 ?_
              refine bselF hb24 ?_
              refine bselF hb24 ?_
              refine bselF hb24 ?_
              refine bselF hb24 ?_
              refine bselF hb24 ?_
              refine bselF hb24 ?_
              refine bselF hb24 ?_
              refine bselF hb24 ?_
              refine bselF hb24 ?_
              refine bselF hb24 ?_
              refine bselF hb24 ?_
              refine bselF hb24 ?_
              refine qn578 _ _ ?_
              obtain rfl := Option.some.inj h22
              refine EOk.done ?_
              exact ⟨⟨_, rfl⟩, [], trivial, ⟨⟨rfl, (by repeat (first | exact trivial | exact rfl | (refine And.intro ?_ ?_))), rfl, rfl, rfl, rfl, rfl, trivial⟩, ⟨rfl, trivial⟩, rfl, rfl⟩⟩
          rintro ⟨v21, hv_⟩
          replace hv_ := hv_.symm
          subst hv_
          refine qn577 _ _ ?_
          refine goc hn ?_
          refine bselM h14 (fun hb27 h14 => ?_) (fun hb27 h14 => ?_)
          · refine COk.seqQ fun Q579 qn579 qx579 qr579 => ?_
            refine gor hn ?_
            refine qn579 _ _ ?_
            refine got hn ?_
            refine qr575 _ _ ?_
            refine qr574 _ _ ?_
            refine qr569 _ _ ?_
            refine qr568 _ _ ?_
            refine qr567 _ _ ?_
            refine qr548 _ _ ?_
            refine qr503 _ _ ?_
            refine qr498 _ _ ?_
            refine qr497 _ _ ?_
            refine qr496 _ _ ?_
            refine qr292 _ _ ?_
            obtain rfl := Option.some.inj h14
            obtain rfl := Option.some.inj h4
            obtain rfl := Option.some.inj h
            exact ⟨[], _, rfl, (by repeat (first | exact trivial | exact rfl | (refine And.intro ?_ ?_))), trivial, rfl, rfl, rfl, rfl, rfl⟩
          · refine gok hn ?_
            refine qn575 _ _ ?_
            refine qn574 _ _ ?_
            refine gor hn ?_
            refine Or.inl (And.intro (inrK hx19 hl11) ?_)
            refine qn569 _ _ ?_
            refine EOk.done ?_
            exact ⟨⟨(rest15, k12 + 1), hd2, h14⟩, [], by show rest15.length < rest15.length + 1; omega, ⟨⟨rfl, (by repeat (first | exact trivial | exact rfl | (refine And.intro ?_ ?_))), rfl, rfl, rfl, rfl, trivial⟩, ⟨rfl, trivial⟩, rfl, rfl⟩⟩
      rintro ⟨⟨⟩, rfl⟩
      refine qn548 _ _ ?_
      refine qn503 _ _ ?_
      refine gor hn ?_
      refine Or.inl (And.intro (inrK hx9 hl1) ?_)
      refine qn498 _ _ ?_
      refine EOk.done ?_
      exact ⟨⟨(rest5, k2 + 1), hd2, h4⟩, [], by show rest5.length < rest5.length + 1; omega, ⟨⟨(by repeat (first | exact trivial | exact rfl | (refine And.intro ?_ ?_))), rfl, rfl, trivial⟩, trivial, rfl, rfl⟩⟩
  rintro ⟨⟨⟩, rfl⟩
  refine qn292 _ _ ?_
  refine COk.seqQ fun Q580 qn580 qx580 qr580 => ?_
  refine gor hn ?_
  refine qn580 _ _ ?_
  refine got hn ?_
  obtain rfl := Option.some.inj h
  exact ⟨[], _, rfl, (by repeat (first | exact trivial | exact rfl | (refine And.intro ?_ ?_))), trivial, rfl, rfl, rfl, rfl, rfl⟩

/- class.Name -/
set_option maxRecDepth 100000 in
set_option maxHeartbeats 1000000 in
theorem class_Name_ok (N : Nat) (a0 : ByteArray) (r : Bool) (h : class_Name N a0 = some r) : Spec Try.prog 72 [] [.str a0] (.bool r) [] [] := by
  refine Spec.of tabOk Try.func72 rfl Try.ntmps72 (by kernel_rfl) rfl rfl rfl fun Γ hn => ?_
  unfold class_Name at h
  refine COk.seqQ fun Q51 qn51 qx51 qr51 => ?_
  refine gor hn ?_
  refine qn51 _ _ ?_
  refine COk.seqQ fun Q52 qn52 qx52 qr52 => ?_
  refine COk.seqQ fun Q53 qn53 qx53 qr53 => ?_
  obtain ⟨o3, h2, h⟩ := bindM h
  refine COk.joinR (ι := { s : Bool // o3 = s }) (fun s => [(0, .str a0), (11, .bool s.1)]) (fun s => []) (fun Q54 qn54 qx54 qr54 => ?_) (by intro s; rw [hn]; rfl) ?_
  · refine gor hn ?_
    intro hl4
    refine bselM h2 (fun hb5 h2 => ?_) (fun hb5 h2 => ?_)
    · refine bselT hb5 ?_
      refine bselT hb5 ?_
      refine bselT hb5 ?_
      refine qn54 _ _ ?_
      obtain rfl := Option.some.inj h2
      refine EOk.done ?_
      exact ⟨⟨_, rfl⟩, [], trivial, ⟨⟨rfl, rfl, trivial⟩, trivial, rfl, rfl⟩⟩
    · refine bselF hb5 ?_
      intro hl6
      refine bselF hb5 ?_
      refine bselF hb5 ?_
      refine qn54 _ _ ?_
      obtain rfl := Option.some.inj h2
      refine EOk.done ?_
      exact ⟨⟨_, rfl⟩, [], trivial, ⟨⟨rfl, rfl, trivial⟩, trivial, rfl, rfl⟩⟩
  rintro ⟨v1, hv_⟩
  replace hv_ := hv_.symm
  subst hv_
  refine qn53 _ _ ?_
  refine goc hn ?_
  refine bselM h (fun hb7 h => ?_) (fun hb7 h => ?_)
  · refine COk.seqQ fun Q56 qn56 qx56 qr56 => ?_
    refine gor hn ?_
    refine qn56 _ _ ?_
    refine got hn ?_
    refine qr52 _ _ ?_
    obtain rfl := Option.some.inj h
    exact ⟨[], _, rfl, (by repeat (first | exact trivial | exact rfl | (refine And.intro ?_ ?_))), trivial, rfl, rfl, rfl, rfl, rfl⟩
  · refine gok hn ?_
    refine qn52 _ _ ?_
    refine COk.seqQ fun Q57 qn57 qx57 qr57 => ?_
    refine COk.seqQ fun Q58 qn58 qx58 qr58 => ?_
    refine gor hn ?_
    intro hl8
    refine qn58 _ _ ?_
    refine COk.rng 13 rfl (fun hrn => ?_)
    obtain ⟨o10, h11, h⟩ := bindM h
    refine COk.joinR (ι := { s : Unit // o10 = Ctl.next s }) (fun s => []) (fun s => []) (fun Q81 qn81 qx81 qr81 => ?_) (by intro s; rw [hn]; rfl) ?_
    · refine COk.blkQ fun Q82 qn82 qe82 qx82 qr82 => ?_
      refine COk.loopQ (ι := { q : (Nat × Nat) // q.1 = ((a0.size : Int) - (q.2 : Int)).toNat ∧ class_Name_l1 N a0 q.1 q.2 = some o10 }) (fun q => [(0, .str a0), (13, .int (a0.size : Int)), (14, .int (q.1.2 : Int))]) (fun q => []) (fun q => q.1.1) ⟨(((a0.size : Int) - ((0 : Nat) : Int)).toNat, 0), rfl, h11⟩ [] ⟨⟨rfl, rfl, rfl, trivial⟩, trivial, rfl, rfl⟩ (by intro q; rw [hn]; rfl) ?_
      rintro ⟨⟨n_, k9⟩, hd13, h11⟩ Q83 qn83 qx83 qr83
      replace hd13 : n_ = ((a0.size : Int) - (k9 : Int)).toNat := hd13
      rcases n_ with _ | n14
      · have hlt17 := upNil hd13
        replace h11 := (class_Name_l1.eq_1 _ _ _).symm.trans h11
        refine COk.seqQ fun Q84 qn84 qx84 qr84 => ?_
        refine gor hn ?_
        refine qn84 _ _ ?_
        refine COk.seqQ fun Q85 qn85 qx85 qr85 => ?_
        refine goc hn ?_
        refine bselF hlt17 ?_
        refine goe hn ?_
        refine qx85 _ _ _ ?_
        refine qx83 _ _ _ ?_
        refine qe82 _ _ ?_
        refine qn81 _ _ ?_
        obtain rfl := Option.some.inj h11
        refine EOk.done ?_
        exact ⟨⟨_, rfl⟩, [], trivial, ⟨trivial, trivial, rfl, rfl⟩⟩
      · obtain ⟨hd2, hlt17⟩ := upCons hd13
        replace h11 := (class_Name_l1.eq_2 _ _ _ _).symm.trans h11
        refine COk.seqQ fun Q86 qn86 qx86 qr86 => ?_
        refine gor hn ?_
        refine qn86 _ _ ?_
        refine COk.seqQ fun Q87 qn87 qx87 qr87 => ?_
        refine goc hn ?_
        refine bselT hlt17 ?_
        refine gok hn ?_
        refine qn87 _ _ ?_
        refine COk.seqQ fun Q88 qn88 qx88 qr88 => ?_
        refine COk.blkQ fun Q95 qn95 qe95 qx95 qr95 => ?_
        refine COk.seqQ fun Q96 qn96 qx96 qr96 => ?_
        refine gor hn ?_
        refine qn96 _ _ ?_
        refine COk.seqQ fun Q97 qn97 qx97 qr97 => ?_
        obtain ⟨o20, h19, h11⟩ := bindM h11
        refine COk.joinR (ι := { s : Bool // o20 = s }) (fun s => [(0, .str a0), (13, .int (a0.size : Int)), (14, .int (k9 : Int)), (26, .bool s.1)]) (fun s => []) (fun Q98 qn98 qx98 qr98 => ?_) (by intro s; rw [hn]; rfl) ?_
        · refine gor hn ?_
          obtain ⟨u21, hx22, h19⟩ := bindM h19
          refine byM hx22 ?_
          refine And.intro rfl ?_
          refine bselM h19 (fun hb23 h19 => ?_) (fun hb23 h19 => ?_)
          · refine bselT hb23 ?_
            refine bselT hb23 ?_
            refine bselT hb23 ?_
            refine bselT hb23 ?_
            refine qn98 _ _ ?_
            obtain rfl := Option.some.inj h19
            refine EOk.done ?_
            exact ⟨⟨_, rfl⟩, [], trivial, ⟨⟨rfl, rfl, rfl, rfl, trivial⟩, trivial, rfl, rfl⟩⟩
          · refine bselF hb23 ?_
            refine bselF hb23 ?_
            obtain ⟨u24, hx25, h19⟩ := bindM h19
            refine byM hx25 ?_
            refine bselF hb23 ?_
            refine And.intro rfl ?_
            refine bselF hb23 ?_
            refine qn98 _ _ ?_
            obtain rfl := Option.some.inj h19
            refine EOk.done ?_
            exact ⟨⟨_, rfl⟩, [], trivial, ⟨⟨rfl, rfl, rfl, rfl, trivial⟩, trivial, rfl, rfl⟩⟩
        rintro ⟨v18, hv_⟩
        replace hv_ := hv_.symm
        subst hv_
        refine qn97 _ _ ?_
        refine goc hn ?_
        refine bselM h11 (fun hb26 h11 => ?_) (fun hb26 h11 => ?_)
        · refine COk.seqQ fun Q99 qn99 qx99 qr99 => ?_
          refine gor hn ?_
          refine qn99 _ _ ?_
          refine got hn ?_
          refine qr95 _ _ ?_
          refine qr88 _ _ ?_
          refine qr83 _ _ ?_
          refine qr82 _ _ ?_
          refine qr81 _ _ ?_
          refine qr57 _ _ ?_
          obtain rfl := Option.some.inj h11
          obtain rfl := Option.some.inj h
          exact ⟨[], _, rfl, (by repeat (first | exact trivial | exact rfl | (refine And.intro ?_ ?_))), trivial, rfl, rfl, rfl, rfl, rfl⟩
        · refine gok hn ?_
          refine qn95 _ _ ?_
          refine qn88 _ _ ?_
          refine gor hn ?_
          refine Or.inl (And.intro (inrU hlt17 hrn) ?_)
          refine qn83 _ _ ?_
          refine EOk.done ?_
          exact ⟨⟨(n14, k9 + 1), hd2, h11⟩, [], by show n14 < n14 + 1; omega, ⟨⟨rfl, rfl, rfl, trivial⟩, trivial, rfl, rfl⟩⟩
    rintro ⟨⟨⟩, rfl⟩
    refine qn57 _ _ ?_
    refine COk.seqQ fun Q100 qn100 qx100 qr100 => ?_
    refine gor hn ?_
    refine qn100 _ _ ?_
    refine got hn ?_
    obtain rfl := Option.some.inj h
    exact ⟨[], _, rfl, (by repeat (first | exact trivial | exact rfl | (refine And.intro ?_ ?_))), trivial, rfl, rfl, rfl, rfl, rfl⟩

/- code.numbers$1 -/
set_option maxRecDepth 100000 in
set_option maxHeartbeats 1000000 in
theorem code_numbers_1_ok (N : Nat) (a0 : Int) (a1 : Int) (r : Bool) (h : code_numbers_1 N a0 a1 = some r) : Spec Try.prog 79 [] [.int a0, .int a1] (.bool r) [] [] := by
  refine Spec.of tabOk Try.func79 rfl Try.ntmps79 (by kernel_rfl) rfl rfl rfl fun Γ hn => ?_
  unfold code_numbers_1 at h
  refine COk.seqQ fun Q4 qn4 qx4 qr4 => ?_
  refine gor hn ?_
  refine qn4 _ _ ?_
  refine COk.seqQ fun Q5 qn5 qx5 qr5 => ?_
  obtain ⟨o3, h2, h⟩ := bindM h
  refine COk.joinR (ι := { s : Bool // o3 = s }) (fun s => [(4, .bool s.1)]) (fun s => []) (fun Q6 qn6 qx6 qr6 => ?_) (by intro s; rw [hn]; rfl) ?_
  · refine gor hn ?_
    refine bselM h2 (fun hb4 h2 => ?_) (fun hb4 h2 => ?_)
    · refine bselT hb4 ?_
      refine bselT hb4 ?_
      refine bselT hb4 ?_
      refine qn6 _ _ ?_
      obtain rfl := Option.some.inj h2
      refine EOk.done ?_
      exact ⟨⟨_, rfl⟩, [], trivial, ⟨⟨rfl, trivial⟩, trivial, rfl, rfl⟩⟩
    · refine bselF hb4 ?_
      refine bselF hb4 ?_
      refine bselF hb4 ?_
      refine qn6 _ _ ?_
      obtain rfl := Option.some.inj h2
      refine EOk.done ?_
      exact ⟨⟨_, rfl⟩, [], trivial, ⟨⟨rfl, trivial⟩, trivial, rfl, rfl⟩⟩
  rintro ⟨v1, hv_⟩
  replace hv_ := hv_.symm
  subst hv_
  refine qn5 _ _ ?_
  refine got hn ?_
  obtain rfl := Option.some.inj h
  exact ⟨[], _, rfl, (by repeat (first | exact trivial | exact rfl | (refine And.intro ?_ ?_))), trivial, rfl, rfl, rfl, rfl, rfl⟩

/- class.Slots -/
set_option maxRecDepth 100000 in
set_option maxHeartbeats 1000000 in
theorem class_Slots_ok (N : Nat) (a0 : Wd) (a1 : Int) (r : Int) (h : class_Slots N a0 a1 = some r) : Spec Try.prog 80 [] [.agg (eWd a0), .int a1] (.int r) [] [] := by
  refine Spec.of tabOk Try.func80 rfl Try.ntmps80 (by kernel_rfl) rfl rfl rfl fun Γ hn => ?_
  unfold class_Slots at h
  refine COk.seqQ fun Q41 qn41 qx41 qr41 => ?_
  refine gor hn ?_
  refine qn41 _ _ ?_
  refine COk.seqQ fun Q42 qn42 qx42 qr42 => ?_
  refine gor hn ?_
  refine qn42 _ _ ?_
  refine COk.seqQ fun Q43 qn43 qx43 qr43 => ?_
  refine COk.seqQ fun Q44 qn44 qx44 qr44 => ?_
  refine gor hn ?_
  refine qn44 _ _ ?_
  obtain ⟨o9, h10, h⟩ := bindM h
  refine COk.joinR (ι := { s : Int // o9 = s }) (fun s => [(5, .int s.1)]) (fun s => []) (fun Q69 qn69 qx69 qr69 => ?_) (by intro s; rw [hn]; rfl) ?_
  · refine COk.blkQ fun Q70 qn70 qe70 qx70 qr70 => ?_
    refine COk.loopQ (ι := { q : (Nat × Int × Int × Int) // class_Slots_l1 N a0 q.1 q.2.1 q.2.2.1 q.2.2.2 = some o9 }) (fun q => [(1, .int q.1.2.1), (2, .ptr 2 0), (5, .int q.1.2.2.1), (6, .int q.1.2.2.2)]) (fun q => [(2, .box (eWd a0) 55)]) (fun q => q.1.1) ⟨(N, a1, (0 : Int), (0 : Int)), h10⟩ [] ⟨⟨rfl, rfl, rfl, rfl, trivial⟩, ⟨rfl, trivial⟩, rfl, rfl⟩ (by intro q; rw [hn]; rfl) ?_
    rintro ⟨⟨n_, v2, v3, v4⟩, h10⟩ Q71 qn71 qx71 qr71
    rcases n_ with _ | n13
    · rw [class_Slots_l1.eq_1] at h10
      cases h10
    · replace h10 := (class_Slots_l1.eq_2 _ _ _ _ _ _).symm.trans h10
      refine COk.seqQ fun Q72 qn72 qx72 qr72 => ?_
      refine COk.seqQ fun Q73 qn73 qx73 qr73 => ?_
      obtain ⟨o16, h15, h10⟩ := bindM h10
      refine COk.joinR (ι := { s : Bool // o16 = s }) (fun s => [(1, .int v2), (2, .ptr 2 0), (5, .int v3), (6, .int v4), (22, .bool s.1)]) (fun s => [(2, .box (eWd a0) 55)]) (fun Q74 qn74 qx74 qr74 => ?_) (by intro s; rw [hn]; rfl) ?_
      · refine gor hn ?_
        refine bselM h15 (fun hb17 h15 => ?_) (fun hb17 h15 => ?_)
        · refine bselT hb17 ?_
          refine bselT hb17 ?_
          refine bselT hb17 ?_
          refine lenM (fun hl18 => ?_)
          refine bselT hb17 ?_
          refine bselT hb17 ?_
          refine bselM h15 (fun hb19 h15 => ?_) (fun hb19 h15 => ?_)
          · refine bselT hb19 ?_
            refine bselT hb19 ?_
            refine bselT hb19 ?_
            refine lenM (fun hl20 => ?_)
            refine bselT hb19 ?_
            refine bselT hb19 ?_
            refine qn74 _ _ ?_
            obtain rfl := Option.some.inj h15
            refine EOk.done ?_
            exact ⟨⟨_, rfl⟩, [], trivial, ⟨⟨rfl, rfl, rfl, rfl, rfl, trivial⟩, ⟨rfl, trivial⟩, rfl, rfl⟩⟩
          · refine bselF hb19 ?_
            refine bselF hb19 ?_
            refine bselF hb19 ?_
            refine bselF hb19 ?_
            refine bselF hb19 ?_
            refine qn74 _ _ ?_
            obtain rfl := Option.some.inj h15
            refine EOk.done ?_
            exact ⟨⟨_, rfl⟩, [], trivial, ⟨⟨rfl, rfl, rfl, rfl, rfl, trivial⟩, ⟨rfl, trivial⟩, rfl, rfl⟩⟩
        · refine bselF hb17 ?_
          refine bselF hb17 ?_
          refine bselF hb17 ?_
          refine bselF hb17 ?_
          refine bselF hb17 ?_
          refine qn74 _ _ ?_
          obtain rfl := Option.some.inj h15
          refine EOk.done ?_
          exact ⟨⟨_, rfl⟩, [], trivial, ⟨⟨rfl, rfl, rfl, rfl, rfl, trivial⟩, ⟨rfl, trivial⟩, rfl, rfl⟩⟩
      rintro ⟨v14, hv_⟩
      replace hv_ := hv_.symm
      subst hv_
      refine qn73 _ _ ?_
      refine goc hn ?_
      refine bselM h10 (fun hb21 h10 => ?_) (fun hb21 h10 => ?_)
      · refine gok hn ?_
        refine qn72 _ _ ?_
        refine COk.seqQ fun Q75 qn75 qx75 qr75 => ?_
        refine COk.blkQ fun Q78 qn78 qe78 qx78 qr78 => ?_
        refine COk.seqQ fun Q79 qn79 qx79 qr79 => ?_
        refine gor hn ?_
        obtain ⟨x22, hx23, h10⟩ := bindM h10
        refine idxM hx23 ?_
        refine Or.inr ?_
        refine qn79 _ _ ?_
        refine gor hn ?_
        obtain ⟨x24, hx25, h10⟩ := bindM h10
        refine idxM hx25 ?_
        refine qn78 _ _ ?_
        refine qn75 _ _ ?_
        refine COk.sub (ts2 := [(1, .int x24.super), (2, .ptr 2 0), (5, .int (wr (v3 + x22.slots))), (6, .int v4)]) (os2 := [(2, .box (eWd a0) 55)]) [] ⟨⟨rfl, rfl, rfl, rfl, trivial⟩, ⟨rfl, trivial⟩, rfl, rfl⟩ (by rw [hn]; rfl) ?_
        refine gor hn ?_
        refine Or.inr ?_
        refine qn71 _ _ ?_
        refine EOk.done ?_
        exact ⟨⟨(n13, x24.super, (wr (v3 + x22.slots)), (wr (v4 + (1 : Int)))), h10⟩, [], by show n13 < n13 + 1; omega, ⟨⟨rfl, rfl, rfl, rfl, trivial⟩, ⟨rfl, trivial⟩, rfl, rfl⟩⟩
      · refine goe hn ?_
        refine qx72 _ _ _ ?_
        refine qx71 _ _ _ ?_
        refine qe70 _ _ ?_
        refine qn69 _ _ ?_
        obtain rfl := Option.some.inj h10
        refine EOk.done ?_
        exact ⟨⟨_, rfl⟩, [], trivial, ⟨⟨rfl, trivial⟩, trivial, rfl, rfl⟩⟩
  rintro ⟨v8, hv_⟩
  replace hv_ := hv_.symm
  subst hv_
  refine qn43 _ _ ?_
  refine COk.seqQ fun Q80 qn80 qx80 qr80 => ?_
  refine gor hn ?_
  refine qn80 _ _ ?_
  refine got hn ?_
  obtain rfl := Option.some.inj h
  exact ⟨[], _, rfl, (by repeat (first | exact trivial | exact rfl | (refine And.intro ?_ ?_))), trivial, rfl, rfl, rfl, rfl, rfl⟩

/- code.numbers -/
set_option maxRecDepth 100000 in
set_option maxHeartbeats 1000000 in
theorem code_numbers_ok (N : Nat) (a0 : Wd) (a1 : Int) (a2 : Me) (a3 : Ins) (r : Int) (h : code_numbers N a0 a1 a2 a3 = some r) : Spec Try.prog 73 [] [.fp (eWd a0), .int a1, .fp (eMe a2), .agg (eIns a3)] (.int r) [] [] := by
  refine Spec.of tabOk Try.func73 rfl Try.ntmps73 (by kernel_rfl) rfl rfl rfl fun Γ hn => ?_
  unfold code_numbers at h
  refine COk.seqQ fun Q1203 qn1203 qx1203 qr1203 => ?_
  refine gor hn ?_
  refine qn1203 _ _ ?_
  refine COk.seqQ fun Q1204 qn1204 qx1204 qr1204 => ?_
  refine gor hn ?_
  refine qn1204 _ _ ?_
  refine COk.seqQ fun Q1205 qn1205 qx1205 qr1205 => ?_
  refine gor hn ?_
  refine qn1205 _ _ ?_
  refine COk.seqQ fun Q1206 qn1206 qx1206 qr1206 => ?_
  refine COk.seqQ fun Q1207 qn1207 qx1207 qr1207 => ?_
  refine gor hn ?_
  refine qn1207 _ _ ?_
  refine COk.blkQ fun Q2349 qn2349 qe2349 qx2349 qr2349 => ?_
  refine COk.seqQ fun Q2350 qn2350 qx2350 qr2350 => ?_
  refine COk.seqQ fun Q2351 qn2351 qx2351 qr2351 => ?_
  refine gor hn ?_
  refine qn2351 _ _ ?_
  obtain ⟨o3, h2, h⟩ := bindM h
  refine COk.joinR (ι := { s : Bool // o3 = s }) (fun s => [(0, .fp (eWd a0)), (1, .int a1), (2, .fp (eMe a2)), (7, .ptr 7 0), (9, .fn 79 []), (11, .bool false), (13, .int a3.op), (14, .bool s.1)]) (fun s => [(7, .box (eIns a3) 81)]) (fun Q2352 qn2352 qx2352 qr2352 => ?_) (by intro s; rw [hn]; rfl) ?_
  · refine goc hn ?_
    refine bselM h2 (fun hb4 h2 => ?_) (fun hb4 h2 => ?_)
    · refine gok hn ?_
      refine qn2352 _ _ ?_
      obtain rfl := Option.some.inj h2
      refine EOk.done ?_
      exact ⟨⟨_, rfl⟩, [], trivial, ⟨⟨(by repeat (first | exact trivial | exact rfl | (refine And.intro ?_ ?_))), rfl, (by repeat (first | exact trivial | exact rfl | (refine And.intro ?_ ?_))), rfl, (by repeat (first | exact trivial | exact rfl | (refine And.intro ?_ ?_))), rfl, rfl, rfl, trivial⟩, ⟨rfl, trivial⟩, rfl, rfl⟩⟩
    · refine COk.seqQ fun Q2353 qn2353 qx2353 qr2353 => ?_
      refine gor hn ?_
      refine qn2353 _ _ ?_
      obtain ⟨o7, h6, h2⟩ := bindM h2
      refine COk.joinR (ι := { s : Bool // o7 = s }) (fun s => [(0, .fp (eWd a0)), (1, .int a1), (2, .fp (eMe a2)), (7, .ptr 7 0), (9, .fn 79 []), (11, .bool false), (13, .int a3.op), (14, .bool s.1)]) (fun s => [(7, .box (eIns a3) 81)]) (fun Q2354 qn2354 qx2354 qr2354 => ?_) (by intro s; rw [hn]; rfl) ?_
      · refine goc hn ?_
        refine bselM h6 (fun hb8 h6 => ?_) (fun hb8 h6 => ?_)
        · refine gok hn ?_
          refine qn2354 _ _ ?_
          obtain rfl := Option.some.inj h6
          refine EOk.done ?_
          exact ⟨⟨_, rfl⟩, [], trivial, ⟨⟨(by repeat (first | exact trivial | exact rfl | (refine And.intro ?_ ?_))), rfl, (by repeat (first | exact trivial | exact rfl | (refine And.intro ?_ ?_))), rfl, (by repeat (first | exact trivial | exact rfl | (refine And.intro ?_ ?_))), rfl, rfl, rfl, trivial⟩, ⟨rfl, trivial⟩, rfl, rfl⟩⟩
        · refine COk.seqQ fun Q2355 qn2355 qx2355 qr2355 => ?_
          refine gor hn ?_
          refine qn2355 _ _ ?_
          obtain ⟨o11, h10, h6⟩ := bindM h6
          refine COk.joinR (ι := { s : Bool // o11 = s }) (fun s => [(0, .fp (eWd a0)), (1, .int a1), (2, .fp (eMe a2)), (7, .ptr 7 0), (9, .fn 79 []), (11, .bool false), (13, .int a3.op), (14, .bool s.1)]) (fun s => [(7, .box (eIns a3) 81)]) (fun Q2356 qn2356 qx2356 qr2356 => ?_) (by intro s; rw [hn]; rfl) ?_
          · refine goc hn ?_
            refine bselM h10 (fun hb12 h10 => ?_) (fun hb12 h10 => ?_)
            · refine gok hn ?_
              refine qn2356 _ _ ?_
              obtain rfl := Option.some.inj h10
              refine EOk.done ?_
              exact ⟨⟨_, rfl⟩, [], trivial, ⟨⟨(by repeat (first | exact trivial | exact rfl | (refine And.intro ?_ ?_))), rfl, (by repeat (first | exact trivial | exact rfl | (refine And.intro ?_ ?_))), rfl, (by repeat (first | exact trivial | exact rfl | (refine And.intro ?_ ?_))), rfl, rfl, rfl, trivial⟩, ⟨rfl, trivial⟩, rfl, rfl⟩⟩
            · refine COk.seqQ fun Q2357 qn2357 qx2357 qr2357 => ?_
              refine gor hn ?_
              refine qn2357 _ _ ?_
              obtain ⟨o15, h14, h10⟩ := bindM h10
              refine COk.joinR (ι := { s : Bool // o15 = s }) (fun s => [(0, .fp (eWd a0)), (1, .int a1), (2, .fp (eMe a2)), (7, .ptr 7 0), (9, .fn 79 []), (11, .bool false), (13, .int a3.op), (14, .bool s.1)]) (fun s => [(7, .box (eIns a3) 81)]) (fun Q2358 qn2358 qx2358 qr2358 => ?_) (by intro s; rw [hn]; rfl) ?_
              · refine goc hn ?_
                refine bselM h14 (fun hb16 h14 => ?_) (fun hb16 h14 => ?_)
                · refine gok hn ?_
                  refine qn2358 _ _ ?_
                  obtain rfl := Option.some.inj h14
                  refine EOk.done ?_
                  exact ⟨⟨_, rfl⟩, [], trivial, ⟨⟨(by repeat (first | exact trivial | exact rfl | (refine And.intro ?_ ?_))), rfl, (by repeat (first | exact trivial | exact rfl | (refine And.intro ?_ ?_))), rfl, (by repeat (first | exact trivial | exact rfl | (refine And.intro ?_ ?_))), rfl, rfl, rfl, trivial⟩, ⟨rfl, trivial⟩, rfl, rfl⟩⟩
                · refine COk.seqQ fun Q2359 qn2359 qx2359 qr2359 => ?_
                  refine gor hn ?_
                  refine qn2359 _ _ ?_
                  obtain ⟨o19, h18, h14⟩ := bindM h14
                  refine COk.joinR (ι := { s : Bool // o19 = s }) (fun s => [(0, .fp (eWd a0)), (1, .int a1), (2, .fp (eMe a2)), (7, .ptr 7 0), (9, .fn 79 []), (11, .bool false), (13, .int a3.op), (14, .bool s.1)]) (fun s => [(7, .box (eIns a3) 81)]) (fun Q2360 qn2360 qx2360 qr2360 => ?_) (by intro s; rw [hn]; rfl) ?_
                  · refine goc hn ?_
                    refine bselM h18 (fun hb20 h18 => ?_) (fun hb20 h18 => ?_)
                    · refine gok hn ?_
                      refine qn2360 _ _ ?_
                      obtain rfl := Option.some.inj h18
                      refine EOk.done ?_
                      exact ⟨⟨_, rfl⟩, [], trivial, ⟨⟨(by repeat (first | exact trivial | exact rfl | (refine And.intro ?_ ?_))), rfl, (by repeat (first | exact trivial | exact rfl | (refine And.intro ?_ ?_))), rfl, (by repeat (first | exact trivial | exact rfl | (refine And.intro ?_ ?_))), rfl, rfl, rfl, trivial⟩, ⟨rfl, trivial⟩, rfl, rfl⟩⟩
                    · refine COk.seqQ fun Q2361 qn2361 qx2361 qr2361 => ?_
                      refine COk.sub (ts2 := [(0, .fp (eWd a0)), (1, .int a1), (2, .fp (eMe a2)), (7, .ptr 7 0), (9, .fn 79 []), (11, .bool false), (13, .int a3.op)]) (os2 := [(7, .box (eIns a3) 81)]) [] ⟨⟨(by repeat (first | exact trivial | exact rfl | (refine And.intro ?_ ?_))), rfl, (by repeat (first | exact trivial | exact rfl | (refine And.intro ?_ ?_))), rfl, (by repeat (first | exact trivial | exact rfl | (refine And.intro ?_ ?_))), rfl, rfl, trivial⟩, ⟨rfl, trivial⟩, rfl, rfl⟩ (by rw [hn]; rfl) ?_
                      refine gor hn ?_
                      refine qn2361 _ _ ?_
                      obtain ⟨o23, h22, h18⟩ := bindM h18
                      refine COk.joinR (ι := { s : Bool // o23 = s }) (fun s => [(0, .fp (eWd a0)), (1, .int a1), (2, .fp (eMe a2)), (7, .ptr 7 0), (9, .fn 79 []), (11, .bool false), (13, .int a3.op), (14, .bool s.1)]) (fun s => [(7, .box (eIns a3) 81)]) (fun Q2362 qn2362 qx2362 qr2362 => ?_) (by intro s; rw [hn]; rfl) ?_
                      · refine goc hn ?_
                        refine bselM h22 (fun hb24 h22 => ?_) (fun hb24 h22 => ?_)
                        · refine gok hn ?_
                          refine qn2362 _ _ ?_
                          obtain rfl := Option.some.inj h22
                          refine EOk.done ?_
                          exact ⟨⟨_, rfl⟩, [], trivial, ⟨⟨(by repeat (first | exact trivial | exact rfl | (refine And.intro ?_ ?_))), rfl, (by repeat (first | exact trivial | exact rfl | (refine And.intro ?_ ?_))), rfl, (by repeat (first | exact trivial | exact rfl | (refine And.intro ?_ ?_))), rfl, rfl, rfl, trivial⟩, ⟨rfl, trivial⟩, rfl, rfl⟩⟩
                        · refine gor hn ?_
                          refine qn2362 _ _ ?_
                          obtain rfl := Option.some.inj h22
                          refine EOk.done ?_
                          exact ⟨⟨_, rfl⟩, [], trivial, ⟨⟨(by repeat (first | exact trivial | exact rfl | (refine And.intro ?_ ?_))), rfl, (by repeat (first | exact trivial | exact rfl | (refine And.intro ?_ ?_))), rfl, (by repeat (first | exact trivial | exact rfl | (refine And.intro ?_ ?_))), rfl, rfl, rfl, trivial⟩, ⟨rfl, trivial⟩, rfl, rfl⟩⟩
                      rintro ⟨v21, hv_⟩
                      replace hv_ := hv_.symm
                      subst hv_
                      refine qn2360 _ _ ?_
                      obtain rfl := Option.some.inj h18
                      refine EOk.done ?_
                      exact ⟨⟨_, rfl⟩, [], trivial, ⟨⟨(by repeat (first | exact trivial | exact rfl | (refine And.intro ?_ ?_))), rfl, (by repeat (first | exact trivial | exact rfl | (refine And.intro ?_ ?_))), rfl, (by repeat (first | exact trivial | exact rfl | (refine And.intro ?_ ?_))), rfl, rfl, rfl, trivial⟩, ⟨rfl, trivial⟩, rfl, rfl⟩⟩
                  rintro ⟨v17, hv_⟩
                  replace hv_ := hv_.symm
                  subst hv_
                  refine qn2358 _ _ ?_
                  obtain rfl := Option.some.inj h14
                  refine EOk.done ?_
                  exact ⟨⟨_, rfl⟩, [], trivial, ⟨⟨(by repeat (first | exact trivial | exact rfl | (refine And.intro ?_ ?_))), rfl, (by repeat (first | exact trivial | exact rfl | (refine And.intro ?_ ?_))), rfl, (by repeat (first | exact trivial | exact rfl | (refine And.intro ?_ ?_))), rfl, rfl, rfl, trivial⟩, ⟨rfl, trivial⟩, rfl, rfl⟩⟩
              rintro ⟨v13, hv_⟩
              replace hv_ := hv_.symm
              subst hv_
              refine qn2356 _ _ ?_
              obtain rfl := Option.some.inj h10
              refine EOk.done ?_
              exact ⟨⟨_, rfl⟩, [], trivial, ⟨⟨(by repeat (first | exact trivial | exact rfl | (refine And.intro ?_ ?_))), rfl, (by repeat (first | exact trivial | exact rfl | (refine And.intro ?_ ?_))), rfl, (by repeat (first | exact trivial | exact rfl | (refine And.intro ?_ ?_))), rfl, rfl, rfl, trivial⟩, ⟨rfl, trivial⟩, rfl, rfl⟩⟩
          rintro ⟨v9, hv_⟩
          replace hv_ := hv_.symm
          subst hv_
          refine qn2354 _ _ ?_
          obtain rfl := Option.some.inj h6
          refine EOk.done ?_
          exact ⟨⟨_, rfl⟩, [], trivial, ⟨⟨(by repeat (first | exact trivial | exact rfl | (refine And.intro ?_ ?_))), rfl, (by repeat (first | exact trivial | exact rfl | (refine And.intro ?_ ?_))), rfl, (by repeat (first | exact trivial | exact rfl | (refine And.intro ?_ ?_))), rfl, rfl, rfl, trivial⟩, ⟨rfl, trivial⟩, rfl, rfl⟩⟩
      rintro ⟨v5, hv_⟩
      replace hv_ := hv_.symm
      subst hv_
      refine qn2352 _ _ ?_
      obtain rfl := Option.some.inj h2
      refine EOk.done ?_
      exact ⟨⟨_, rfl⟩, [], trivial, ⟨⟨(by repeat (first | exact trivial | exact rfl | (refine And.intro ?_ ?_))), rfl, (by repeat (first | exact trivial | exact rfl | (refine And.intro ?_ ?_))), rfl, (by repeat (first | exact trivial | exact rfl | (refine And.intro ?_ ?_))), rfl, rfl, rfl, trivial⟩, ⟨rfl, trivial⟩, rfl, rfl⟩⟩
  rintro ⟨v1, hv_⟩
  replace hv_ := hv_.symm
  subst hv_
  refine qn2350 _ _ ?_
  obtain ⟨o28, h27, h⟩ := bindM h
  refine COk.joinR (ι := { s : (Bool × Bool) // o28 = Ctl.next s }) (fun s => [(7, .ptr 7 0), (10, .bool s.1.1), (11, .bool s.1.2)]) (fun s => [(7, .box (eIns a3) 81)]) (fun Q2363 qn2363 qx2363 qr2363 => ?_) (by intro s; rw [hn]; rfl) ?_
  · refine goc hn ?_
    refine bselM h27 (fun hb29 h27 => ?_) (fun hb29 h27 => ?_)
    · refine gor hn ?_
      refine qn2363 _ _ ?_
      obtain rfl := Option.some.inj h27
      refine EOk.done ?_
      exact ⟨⟨_, rfl⟩, [], trivial, ⟨⟨rfl, rfl, rfl, trivial⟩, ⟨rfl, trivial⟩, rfl, rfl⟩⟩
    · refine COk.seqQ fun Q2364 qn2364 qx2364 qr2364 => ?_
      refine gor hn ?_
      refine qn2364 _ _ ?_
      obtain ⟨o33, h32, h27⟩ := bindM h27
      refine COk.joinR (ι := { s : (Bool × Bool) // o33 = Ctl.next s }) (fun s => [(7, .ptr 7 0), (10, .bool s.1.1), (11, .bool s.1.2)]) (fun s => [(7, .box (eIns a3) 81)]) (fun Q2365 qn2365 qx2365 qr2365 => ?_) (by intro s; rw [hn]; rfl) ?_
      · refine goc hn ?_
        refine bselM h32 (fun hb34 h32 => ?_) (fun hb34 h32 => ?_)
        · refine god hn (by kernel_rfl) ?_
          obtain ⟨r35, hr36, h32⟩ := bindM h32
          show CallOk Try.prog _ _ _ _
          refine CallOk.as (code_numbers_1_ok N a3.a a2.args r35 hr36) (by repeat (first | exact trivial | exact rfl | (refine And.intro ?_ ?_))) trivial rfl ?_
          refine qn2365 _ _ ?_
          obtain rfl := Option.some.inj h32
          refine EOk.done ?_
          exact ⟨⟨_, rfl⟩, [], trivial, ⟨⟨rfl, rfl, rfl, trivial⟩, ⟨rfl, trivial⟩, rfl, rfl⟩⟩
        · refine COk.seqQ fun Q2366 qn2366 qx2366 qr2366 => ?_
          refine COk.seqQ fun Q2367 qn2367 qx2367 qr2367 => ?_
          refine gor hn ?_
          refine qn2367 _ _ ?_
          obtain ⟨o39, h38, h32⟩ := bindM h32
          refine COk.joinR (ι := { s : Bool // o39 = s }) (fun s => [(0, .fp (eWd a0)), (1, .int a1), (2, .fp (eMe a2)), (7, .ptr 7 0), (9, .fn 79 []), (11, .bool false), (13, .int a3.op), (35, .bool s.1)]) (fun s => [(7, .box (eIns a3) 81)]) (fun Q2368 qn2368 qx2368 qr2368 => ?_) (by intro s; rw [hn]; rfl) ?_
          · refine goc hn ?_
            refine bselM h38 (fun hb40 h38 => ?_) (fun hb40 h38 => ?_)
            · refine gok hn ?_
              refine qn2368 _ _ ?_
              obtain rfl := Option.some.inj h38
              refine EOk.done ?_
              exact ⟨⟨_, rfl⟩, [], trivial, ⟨⟨(by repeat (first | exact trivial | exact rfl | (refine And.intro ?_ ?_))), rfl, (by repeat (first | exact trivial | exact rfl | (refine And.intro ?_ ?_))), rfl, (by repeat (first | exact trivial | exact rfl | (refine And.intro ?_ ?_))), rfl, rfl, rfl, trivial⟩, ⟨rfl, trivial⟩, rfl, rfl⟩⟩
            · refine gor hn ?_
              refine qn2368 _ _ ?_
              obtain rfl := Option.some.inj h38
              refine EOk.done ?_
              exact ⟨⟨_, rfl⟩, [], trivial, ⟨⟨(by repeat (first | exact trivial | exact rfl | (refine And.intro ?_ ?_))), rfl, (by repeat (first | exact trivial | exact rfl | (refine And.intro ?_ ?_))), rfl, (by repeat (first | exact trivial | exact rfl | (refine And.intro ?_ ?_))), rfl, rfl, rfl, trivial⟩, ⟨rfl, trivial⟩, rfl, rfl⟩⟩
          rintro ⟨v37, hv_⟩
          replace hv_ := hv_.symm
          subst hv_
          refine qn2366 _ _ ?_
          obtain ⟨o44, h43, h32⟩ := bindM h32
          refine COk.joinR (ι := { s : (Bool × Bool) // o44 = Ctl.next s }) (fun s => [(7, .ptr 7 0), (10, .bool s.1.1), (11, .bool s.1.2)]) (fun s => [(7, .box (eIns a3) 81)]) (fun Q2369 qn2369 qx2369 qr2369 => ?_) (by intro s; rw [hn]; rfl) ?_
          · refine goc hn ?_
            refine bselM h43 (fun hb45 h43 => ?_) (fun hb45 h43 => ?_)
            · refine god hn (by kernel_rfl) ?_
              obtain ⟨r46, hr47, h43⟩ := bindM h43
              show CallOk Try.prog _ _ _ _
              refine CallOk.as (code_numbers_1_ok N a3.a a2.temps r46 hr47) (by repeat (first | exact trivial | exact rfl | (refine And.intro ?_ ?_))) trivial rfl ?_
              refine qn2369 _ _ ?_
              obtain rfl := Option.some.inj h43
              refine EOk.done ?_
              exact ⟨⟨_, rfl⟩, [], trivial, ⟨⟨rfl, rfl, rfl, trivial⟩, ⟨rfl, trivial⟩, rfl, rfl⟩⟩
            · refine COk.seqQ fun Q2370 qn2370 qx2370 qr2370 => ?_
              refine COk.seqQ fun Q2371 qn2371 qx2371 qr2371 => ?_
              refine gor hn ?_
              refine qn2371 _ _ ?_
              obtain ⟨o50, h49, h43⟩ := bindM h43
              refine COk.joinR (ι := { s : Bool // o50 = s }) (fun s => [(0, .fp (eWd a0)), (1, .int a1), (2, .fp (eMe a2)), (7, .ptr 7 0), (9, .fn 79 []), (11, .bool false), (13, .int a3.op), (46, .bool s.1)]) (fun s => [(7, .box (eIns a3) 81)]) (fun Q2372 qn2372 qx2372 qr2372 => ?_) (by intro s; rw [hn]; rfl) ?_
              · refine goc hn ?_
                refine bselM h49 (fun hb51 h49 => ?_) (fun hb51 h49 => ?_)
                · refine gok hn ?_
                  refine qn2372 _ _ ?_
                  obtain rfl := Option.some.inj h49
                  refine EOk.done ?_
                  exact ⟨⟨_, rfl⟩, [], trivial, ⟨⟨(by repeat (first | exact trivial | exact rfl | (refine And.intro ?_ ?_))), rfl, (by repeat (first | exact trivial | exact rfl | (refine And.intro ?_ ?_))), rfl, (by repeat (first | exact trivial | exact rfl | (refine And.intro ?_ ?_))), rfl, rfl, rfl, trivial⟩, ⟨rfl, trivial⟩, rfl, rfl⟩⟩
                · refine gor hn ?_
                  refine qn2372 _ _ ?_
                  obtain rfl := Option.some.inj h49
                  refine EOk.done ?_
                  exact ⟨⟨_, rfl⟩, [], trivial, ⟨⟨(by repeat (first | exact trivial | exact rfl | (refine And.intro ?_ ?_))), rfl, (by repeat (first | exact trivial | exact rfl | (refine And.intro ?_ ?_))), rfl, (by repeat (first | exact trivial | exact rfl | (refine And.intro ?_ ?_))), rfl, rfl, rfl, trivial⟩, ⟨rfl, trivial⟩, rfl, rfl⟩⟩
              rintro ⟨v48, hv_⟩
              replace hv_ := hv_.symm
              subst hv_
              refine qn2370 _ _ ?_
              obtain ⟨o55, h54, h43⟩ := bindM h43
              refine COk.joinR (ι := { s : (Bool × Bool) // o55 = Ctl.next s }) (fun s => [(7, .ptr 7 0), (10, .bool s.1.1), (11, .bool s.1.2)]) (fun s => [(7, .box (eIns a3) 81)]) (fun Q2373 qn2373 qx2373 qr2373 => ?_) (by intro s; rw [hn]; rfl) ?_
              · refine goc hn ?_
                refine bselM h54 (fun hb56 h54 => ?_) (fun hb56 h54 => ?_)
                · refine god hn (by kernel_rfl) ?_
                  obtain ⟨r57, hr58, h54⟩ := bindM h54
                  show CallOk Try.prog _ _ _ _
                  refine CallOk.as (class_Slots_ok N a0 a1 r57 hr58) (by repeat (first | exact trivial | exact rfl | (refine And.intro ?_ ?_))) trivial rfl ?_
                  obtain ⟨r59, hr60, h54⟩ := bindM h54
                  show CallOk Try.prog _ _ _ _
                  refine CallOk.as (code_numbers_1_ok N a3.a r57 r59 hr60) (by repeat (first | exact trivial | exact rfl | (refine And.intro ?_ ?_))) trivial rfl ?_
                  refine qn2373 _ _ ?_
                  obtain rfl := Option.some.inj h54
                  refine EOk.done ?_
                  exact ⟨⟨_, rfl⟩, [], trivial, ⟨⟨rfl, rfl, rfl, trivial⟩, ⟨rfl, trivial⟩, rfl, rfl⟩⟩
                · refine COk.seqQ fun Q2374 qn2374 qx2374 qr2374 => ?_
                  refine gor hn ?_
                  refine qn2374 _ _ ?_
                  obtain ⟨o64, h63, h54⟩ := bindM h54
                  refine COk.joinR (ι := { s : (Bool × Bool) // o64 = Ctl.next s }) (fun s => [(7, .ptr 7 0), (10, .bool s.1.1), (11, .bool s.1.2)]) (fun s => [(7, .box (eIns a3) 81)]) (fun Q2375 qn2375 qx2375 qr2375 => ?_) (by intro s; rw [hn]; rfl) ?_
                  · refine goc hn ?_
                    refine bselM h63 (fun hb65 h63 => ?_) (fun hb65 h63 => ?_)
                    · obtain ⟨o68, h67, h63⟩ := bindM h63
                      refine COk.joinR (ι := { s : Bool // o68 = s }) (fun s => [(7, .ptr 7 0), (10, .bool s.1), (11, .bool false)]) (fun s => [(7, .box (eIns a3) 81)]) (fun Q2376 qn2376 qx2376 qr2376 => ?_) (by intro s; rw [hn]; rfl) ?_
                      · refine gor hn ?_
                        refine bselM h67 (fun hb69 h67 => ?_) (fun hb69 h67 => ?_)
                        · refine bselT hb69 ?_
                          refine bselT hb69 ?_
                          refine bselT hb69 ?_
                          refine qn2376 _ _ ?_
                          obtain rfl := Option.some.inj h67
                          refine EOk.done ?_
                          exact ⟨⟨_, rfl⟩, [], trivial, ⟨⟨rfl, rfl, rfl, trivial⟩, ⟨rfl, trivial⟩, rfl, rfl⟩⟩
                        · refine bselF hb69 ?_
                          refine bselF hb69 ?_
                          refine bselF hb69 ?_
                          refine qn2376 _ _ ?_
                          obtain rfl := Option.some.inj h67
                          refine EOk.done ?_
                          exact ⟨⟨_, rfl⟩, [], trivial, ⟨⟨rfl, rfl, rfl, trivial⟩, ⟨rfl, trivial⟩, rfl, rfl⟩⟩
                      rintro ⟨v66, hv_⟩
                      replace hv_ := hv_.symm
                      subst hv_
                      refine qn2375 _ _ ?_
                      obtain rfl := Option.some.inj h63
                      refine EOk.done ?_
                      exact ⟨⟨_, rfl⟩, [], trivial, ⟨⟨rfl, rfl, rfl, trivial⟩, ⟨rfl, trivial⟩, rfl, rfl⟩⟩
                    · refine COk.seqQ fun Q2377 qn2377 qx2377 qr2377 => ?_
                      refine gor hn ?_
                      refine qn2377 _ _ ?_
                      obtain ⟨o73, h72, h63⟩ := bindM h63
                      refine COk.joinR (ι := { s : (Bool × Bool) // o73 = Ctl.next s }) (fun s => [(7, .ptr 7 0), (10, .bool s.1.1), (11, .bool s.1.2)]) (fun s => [(7, .box (eIns a3) 81)]) (fun Q2378 qn2378 qx2378 qr2378 => ?_) (by intro s; rw [hn]; rfl) ?_
                      · refine goc hn ?_
                        refine bselM h72 (fun hb74 h72 => ?_) (fun hb74 h72 => ?_)
                        · obtain ⟨o77, h76, h72⟩ := bindM h72
                          refine COk.joinR (ι := { s : Bool // o77 = s }) (fun s => [(7, .ptr 7 0), (10, .bool s.1), (11, .bool false)]) (fun s => [(7, .box (eIns a3) 81)]) (fun Q2379 qn2379 qx2379 qr2379 => ?_) (by intro s; rw [hn]; rfl) ?_
                          · refine COk.sub (ts2 := [(0, .fp (eWd a0)), (7, .ptr 7 0), (11, .bool false)]) (os2 := [(7, .box (eIns a3) 81)]) [] ⟨⟨(by repeat (first | exact trivial | exact rfl | (refine And.intro ?_ ?_))), rfl, rfl, trivial⟩, ⟨rfl, trivial⟩, rfl, rfl⟩ (by rw [hn]; rfl) ?_
                            refine god hn (by kernel_rfl) ?_
                            refine bselM h76 (fun hb78 h76 => ?_) (fun hb78 h76 => ?_)
                            · refine bselT hb78 ?_
                              refine bselT hb78 ?_
                              refine bselT hb78 ?_
                              refine bselT hb78 ?_
                              refine bselT hb78 ?_
                              refine qn2379 _ _ ?_
                              obtain rfl := Option.some.inj h76
                              refine EOk.done ?_
                              exact ⟨⟨_, rfl⟩, [], trivial, ⟨⟨rfl, rfl, rfl, trivial⟩, ⟨rfl, trivial⟩, rfl, rfl⟩⟩
                            · refine bselF hb78 ?_
                              refine bselF hb78 ?_
                              refine bselF hb78 ?_
                              refine bselM h76 (fun hb79 h76 => ?_) (fun hb79 h76 => ?_)
                              · refine bselT hb79 ?_
                                refine bselT hb79 ?_
                                refine bselT hb79 ?_
                                refine bselT hb79 ?_
                                refine bselT hb79 ?_
                                refine bselT hb79 ?_
                                refine lenM (fun hl80 => ?_)
                                refine bselT hb79 ?_
                                refine bselF hb78 ?_
                                refine bselT hb79 ?_
                                refine bselF hb78 ?_
                                refine qn2379 _ _ ?_
                                obtain rfl := Option.some.inj h76
                                refine EOk.done ?_
                                exact ⟨⟨_, rfl⟩, [], trivial, ⟨⟨rfl, rfl, rfl, trivial⟩, ⟨rfl, trivial⟩, rfl, rfl⟩⟩
                              · refine bselF hb79 ?_
                                refine bselF hb79 ?_
                                refine bselF hb79 ?_
                                refine bselF hb79 ?_
                                refine bselF hb79 ?_
                                refine bselF hb79 ?_
                                refine bselF hb79 ?_
                                refine bselF hb78 ?_
                                refine bselF hb79 ?_
                                refine bselF hb78 ?_
                                refine qn2379 _ _ ?_
                                obtain rfl := Option.some.inj h76
                                refine EOk.done ?_
                                exact ⟨⟨_, rfl⟩, [], trivial, ⟨⟨rfl, rfl, rfl, trivial⟩, ⟨rfl, trivial⟩, rfl, rfl⟩⟩
                          rintro ⟨v75, hv_⟩
                          replace hv_ := hv_.symm
                          subst hv_
                          refine qn2378 _ _ ?_
                          obtain rfl := Option.some.inj h72
                          refine EOk.done ?_
                          exact ⟨⟨_, rfl⟩, [], trivial, ⟨⟨rfl, rfl, rfl, trivial⟩, ⟨rfl, trivial⟩, rfl, rfl⟩⟩
                        · refine COk.seqQ fun Q2380 qn2380 qx2380 qr2380 => ?_
                          refine gor hn ?_
                          refine qn2380 _ _ ?_
                          obtain ⟨o84, h83, h72⟩ := bindM h72
                          refine COk.joinR (ι := { s : (Bool × Bool) // o84 = Ctl.next s }) (fun s => [(7, .ptr 7 0), (10, .bool s.1.1), (11, .bool s.1.2)]) (fun s => [(7, .box (eIns a3) 81)]) (fun Q2381 qn2381 qx2381 qr2381 => ?_) (by intro s; rw [hn]; rfl) ?_
                          · refine goc hn ?_
                            refine bselM h83 (fun hb85 h83 => ?_) (fun hb85 h83 => ?_)
                            · refine gor hn ?_
                              obtain ⟨r86, hr87, h83⟩ := bindM h83
                              show CallOk Try.prog _ _ _ _
                              refine CallOk.as (code_numbers_1_ok N a3.a (5 : Int) r86 hr87) (by repeat (first | exact trivial | exact rfl | (refine And.intro ?_ ?_))) trivial rfl ?_
                              refine qn2381 _ _ ?_
                              obtain rfl := Option.some.inj h83
                              refine EOk.done ?_
                              exact ⟨⟨_, rfl⟩, [], trivial, ⟨⟨rfl, rfl, rfl, trivial⟩, ⟨rfl, trivial⟩, rfl, rfl⟩⟩
                            · refine COk.seqQ fun Q2382 qn2382 qx2382 qr2382 => ?_
                              refine COk.seqQ fun Q2383 qn2383 qx2383 qr2383 => ?_
                              refine gor hn ?_
                              refine qn2383 _ _ ?_
                              obtain ⟨o90, h89, h83⟩ := bindM h83
                              refine COk.joinR (ι := { s : Bool // o90 = s }) (fun s => [(2, .fp (eMe a2)), (7, .ptr 7 0), (9, .fn 79 []), (11, .bool false), (94, .bool s.1)]) (fun s => [(7, .box (eIns a3) 81)]) (fun Q2384 qn2384 qx2384 qr2384 => ?_) (by intro s; rw [hn]; rfl) ?_
                              · refine goc hn ?_
                                refine bselM h89 (fun hb91 h89 => ?_) (fun hb91 h89 => ?_)
                                · refine gok hn ?_
                                  refine qn2384 _ _ ?_
                                  obtain rfl := Option.some.inj h89
                                  refine EOk.done ?_
                                  exact ⟨⟨_, rfl⟩, [], trivial, ⟨⟨(by repeat (first | exact trivial | exact rfl | (refine And.intro ?_ ?_))), rfl, (by repeat (first | exact trivial | exact rfl | (refine And.intro ?_ ?_))), rfl, rfl, trivial⟩, ⟨rfl, trivial⟩, rfl, rfl⟩⟩
                                · refine gor hn ?_
                                  refine qn2384 _ _ ?_
                                  obtain rfl := Option.some.inj h89
                                  refine EOk.done ?_
                                  exact ⟨⟨_, rfl⟩, [], trivial, ⟨⟨(by repeat (first | exact trivial | exact rfl | (refine And.intro ?_ ?_))), rfl, (by repeat (first | exact trivial | exact rfl | (refine And.intro ?_ ?_))), rfl, rfl, trivial⟩, ⟨rfl, trivial⟩, rfl, rfl⟩⟩
                              rintro ⟨v88, hv_⟩
                              replace hv_ := hv_.symm
                              subst hv_
                              refine qn2382 _ _ ?_
                              refine goc hn ?_
                              refine bselM h83 (fun hb92 h83 => ?_) (fun hb92 h83 => ?_)
                              · refine god hn (by kernel_rfl) ?_
                                refine lenM (fun hl93 => ?_)
                                obtain ⟨r94, hr95, h83⟩ := bindM h83
                                show CallOk Try.prog _ _ _ _
                                refine CallOk.as (code_numbers_1_ok N a3.a (a2.code.length : Int) r94 hr95) (by repeat (first | exact trivial | exact rfl | (refine And.intro ?_ ?_))) trivial rfl ?_
                                refine qn2381 _ _ ?_
                                obtain rfl := Option.some.inj h83
                                refine EOk.done ?_
                                exact ⟨⟨_, rfl⟩, [], trivial, ⟨⟨rfl, rfl, rfl, trivial⟩, ⟨rfl, trivial⟩, rfl, rfl⟩⟩
                              · refine COk.seqQ fun Q2385 qn2385 qx2385 qr2385 => ?_
                                refine gor hn ?_
                                refine qn2385 _ _ ?_
                                refine got hn ?_
                                refine qr2381 _ _ ?_
                                refine qr2378 _ _ ?_
                                refine qr2375 _ _ ?_
                                refine qr2373 _ _ ?_
                                refine qr2369 _ _ ?_
                                refine qr2365 _ _ ?_
                                refine qr2363 _ _ ?_
                                refine qr2349 _ _ ?_
                                refine qr1206 _ _ ?_
                                obtain rfl := Option.some.inj h83
                                obtain rfl := Option.some.inj h72
                                obtain rfl := Option.some.inj h63
                                obtain rfl := Option.some.inj h54
                                obtain rfl := Option.some.inj h43
                                obtain rfl := Option.some.inj h32
                                obtain rfl := Option.some.inj h27
                                obtain rfl := Option.some.inj h
                                exact ⟨[], _, rfl, (by repeat (first | exact trivial | exact rfl | (refine And.intro ?_ ?_))), trivial, rfl, rfl, rfl, rfl, rfl⟩
                          rintro ⟨⟨v81, v82⟩, rfl⟩
                          refine qn2378 _ _ ?_
                          obtain rfl := Option.some.inj h72
                          refine EOk.done ?_
                          exact ⟨⟨_, rfl⟩, [], trivial, ⟨⟨rfl, rfl, rfl, trivial⟩, ⟨rfl, trivial⟩, rfl, rfl⟩⟩
                      rintro ⟨⟨v70, v71⟩, rfl⟩
                      refine qn2375 _ _ ?_
                      obtain rfl := Option.some.inj h63
                      refine EOk.done ?_
                      exact ⟨⟨_, rfl⟩, [], trivial, ⟨⟨rfl, rfl, rfl, trivial⟩, ⟨rfl, trivial⟩, rfl, rfl⟩⟩
                  rintro ⟨⟨v61, v62⟩, rfl⟩
                  refine qn2373 _ _ ?_
                  obtain rfl := Option.some.inj h54
                  refine EOk.done ?_
                  exact ⟨⟨_, rfl⟩, [], trivial, ⟨⟨rfl, rfl, rfl, trivial⟩, ⟨rfl, trivial⟩, rfl, rfl⟩⟩
              rintro ⟨⟨v52, v53⟩, rfl⟩
              refine qn2369 _ _ ?_
              obtain rfl := Option.some.inj h43
              refine EOk.done ?_
              exact ⟨⟨_, rfl⟩, [], trivial, ⟨⟨rfl, rfl, rfl, trivial⟩, ⟨rfl, trivial⟩, rfl, rfl⟩⟩
          rintro ⟨⟨v41, v42⟩, rfl⟩
          refine qn2365 _ _ ?_
          obtain rfl := Option.some.inj h32
          refine EOk.done ?_
          exact ⟨⟨_, rfl⟩, [], trivial, ⟨⟨rfl, rfl, rfl, trivial⟩, ⟨rfl, trivial⟩, rfl, rfl⟩⟩
      rintro ⟨⟨v30, v31⟩, rfl⟩
      refine qn2363 _ _ ?_
      obtain rfl := Option.some.inj h27
      refine EOk.done ?_
      exact ⟨⟨_, rfl⟩, [], trivial, ⟨⟨rfl, rfl, rfl, trivial⟩, ⟨rfl, trivial⟩, rfl, rfl⟩⟩
  rintro ⟨⟨v25, v26⟩, rfl⟩
  refine qn2349 _ _ ?_
  refine qn1206 _ _ ?_
  refine COk.seqQ fun Q2386 qn2386 qx2386 qr2386 => ?_
  refine COk.blkQ fun Q2398 qn2398 qe2398 qx2398 qr2398 => ?_
  refine COk.seqQ fun Q2399 qn2399 qx2399 qr2399 => ?_
  refine gor hn ?_
  refine qn2399 _ _ ?_
  refine goc hn ?_
  refine bselM h (fun hb96 h => ?_) (fun hb96 h => ?_)
  · refine COk.seqQ fun Q2400 qn2400 qx2400 qr2400 => ?_
    refine gor hn ?_
    refine qn2400 _ _ ?_
    refine got hn ?_
    refine qr2398 _ _ ?_
    refine qr2386 _ _ ?_
    obtain rfl := Option.some.inj h
    exact ⟨[], _, rfl, (by repeat (first | exact trivial | exact rfl | (refine And.intro ?_ ?_))), trivial, rfl, rfl, rfl, rfl, rfl⟩
  · refine COk.seqQ fun Q2401 qn2401 qx2401 qr2401 => ?_
    obtain ⟨o99, h98, h⟩ := bindM h
    refine COk.joinR (ι := { s : Bool // o99 = s }) (fun s => [(109, .bool s.1)]) (fun s => []) (fun Q2402 qn2402 qx2402 qr2402 => ?_) (by intro s; rw [hn]; rfl) ?_
    · refine gor hn ?_
      refine bselM h98 (fun hb100 h98 => ?_) (fun hb100 h98 => ?_)
      · refine bselT hb100 ?_
        refine bselT hb100 ?_
        obtain ⟨r101, hr102, h98⟩ := bindM h98
        show CallOk Try.prog _ _ _ _
        refine CallOk.as (class_Name_ok N a3.name r101 hr102) (by repeat (first | exact trivial | exact rfl | (refine And.intro ?_ ?_))) trivial rfl ?_
        refine bselT hb100 ?_
        refine bselT hb100 ?_
        refine bselM h98 (fun hb103 h98 => ?_) (fun hb103 h98 => ?_)
        · refine bselT hb103 ?_
          refine bselT hb103 ?_
          refine bselT hb103 ?_
          refine bselT hb103 ?_
          refine qn2402 _ _ ?_
          obtain rfl := Option.some.inj h98
          refine EOk.done ?_
          exact ⟨⟨_, rfl⟩, [], trivial, ⟨⟨rfl, trivial⟩, trivial, rfl, rfl⟩⟩
        · refine bselF hb103 ?_
          refine bselF hb103 ?_
          refine bselM h98 (fun hb104 h98 => ?_) (fun hb104 h98 => ?_)
          · refine bselT hb104 ?_
            refine bselT hb104 ?_
            refine bselF hb103 ?_
            refine bselT hb104 ?_
            refine bselF hb103 ?_
            refine bselM h98 (fun hb105 h98 => ?_) (fun hb105 h98 => ?_)
            · refine bselT hb105 ?_
              refine bselT hb105 ?_
              refine bselT hb105 ?_
              refine qn2402 _ _ ?_
              obtain rfl := Option.some.inj h98
              refine EOk.done ?_
              exact ⟨⟨_, rfl⟩, [], trivial, ⟨⟨rfl, trivial⟩, trivial, rfl, rfl⟩⟩
            · refine bselF hb105 ?_
              refine bselF hb105 ?_
              refine bselF hb105 ?_
              refine bselM h98 (fun hb106 h98 => ?_) (fun hb106 h98 => ?_)
              · refine bselT hb106 ?_
                refine bselT hb106 ?_
                refine bselT hb106 ?_
                refine qn2402 _ _ ?_
                obtain rfl := Option.some.inj h98
                refine EOk.done ?_
                exact ⟨⟨_, rfl⟩, [], trivial, ⟨⟨rfl, trivial⟩, trivial, rfl, rfl⟩⟩
              · refine bselF hb106 ?_
                refine bselF hb106 ?_
                refine bselF hb106 ?_
                refine qn2402 _ _ ?_
                obtain rfl := Option.some.inj h98
                refine EOk.done ?_
                exact ⟨⟨_, rfl⟩, [], trivial, ⟨⟨rfl, trivial⟩, trivial, rfl, rfl⟩⟩
          · refine bselF hb104 ?_
            refine bselF hb104 ?_
            refine bselF hb103 ?_
            refine bselF hb104 ?_
            refine bselF hb103 ?_
            refine bselM h98 (fun hb107 h98 => ?_) (fun hb107 h98 => ?_)
            · refine bselT hb107 ?_
              refine bselT hb107 ?_
              refine bselT hb107 ?_
              refine qn2402 _ _ ?_
              obtain rfl := Option.some.inj h98
              refine EOk.done ?_
              exact ⟨⟨_, rfl⟩, [], trivial, ⟨⟨rfl, trivial⟩, trivial, rfl, rfl⟩⟩
            · refine bselF hb107 ?_
              refine bselF hb107 ?_
              refine bselF hb107 ?_
              refine qn2402 _ _ ?_
              obtain rfl := Option.some.inj h98
              refine EOk.done ?_
              exact ⟨⟨_, rfl⟩, [], trivial, ⟨⟨rfl, trivial⟩, trivial, rfl, rfl⟩⟩
      · refine bselF hb100 ?_
        refine bselF hb100 ?_
        refine bselF hb100 ?_
        refine bselF hb100 ?_
        refine bselM h98 (fun hb108 h98 => ?_) (fun hb108 h98 => ?_)
        · refine bselT hb108 ?_
          refine bselT hb108 ?_
          refine bselT hb108 ?_
          refine bselM h98 (fun hb109 h98 => ?_) (fun hb109 h98 => ?_)
          · refine bselT hb109 ?_
            refine bselT hb109 ?_
            refine bselT hb109 ?_
            refine qn2402 _ _ ?_
            obtain rfl := Option.some.inj h98
            refine EOk.done ?_
            exact ⟨⟨_, rfl⟩, [], trivial, ⟨⟨rfl, trivial⟩, trivial, rfl, rfl⟩⟩
          · refine bselF hb109 ?_
            refine bselF hb109 ?_
            refine bselF hb109 ?_
            refine bselM h98 (fun hb110 h98 => ?_) (fun hb110 h98 => ?_)
            · refine bselT hb110 ?_
              refine bselT hb110 ?_
              refine bselT hb110 ?_
              refine qn2402 _ _ ?_
              obtain rfl := Option.some.inj h98
              refine EOk.done ?_
              exact ⟨⟨_, rfl⟩, [], trivial, ⟨⟨rfl, trivial⟩, trivial, rfl, rfl⟩⟩
            · refine bselF hb110 ?_
              refine bselF hb110 ?_
              refine bselF hb110 ?_
              refine qn2402 _ _ ?_
              obtain rfl := Option.some.inj h98
              refine EOk.done ?_
              exact ⟨⟨_, rfl⟩, [], trivial, ⟨⟨rfl, trivial⟩, trivial, rfl, rfl⟩⟩
        · refine bselF hb108 ?_
          refine bselF hb108 ?_
          refine bselF hb108 ?_
          refine bselM h98 (fun hb111 h98 => ?_) (fun hb111 h98 => ?_)
          · refine bselT hb111 ?_
            refine bselT hb111 ?_
            refine bselT hb111 ?_
            refine qn2402 _ _ ?_
            obtain rfl := Option.some.inj h98
            refine EOk.done ?_
            exact ⟨⟨_, rfl⟩, [], trivial, ⟨⟨rfl, trivial⟩, trivial, rfl, rfl⟩⟩
          · refine bselF hb111 ?_
            refine bselF hb111 ?_
            refine bselF hb111 ?_
            refine qn2402 _ _ ?_
            obtain rfl := Option.some.inj h98
            refine EOk.done ?_
            exact ⟨⟨_, rfl⟩, [], trivial, ⟨⟨rfl, trivial⟩, trivial, rfl, rfl⟩⟩
    rintro ⟨v97, hv_⟩
    replace hv_ := hv_.symm
    subst hv_
    refine qn2401 _ _ ?_
    refine goc hn ?_
    refine bselM h (fun hb112 h => ?_) (fun hb112 h => ?_)
    · refine COk.seqQ fun Q2403 qn2403 qx2403 qr2403 => ?_
      refine gor hn ?_
      refine qn2403 _ _ ?_
      refine got hn ?_
      refine qr2398 _ _ ?_
      refine qr2386 _ _ ?_
      obtain rfl := Option.some.inj h
      exact ⟨[], _, rfl, (by repeat (first | exact trivial | exact rfl | (refine And.intro ?_ ?_))), trivial, rfl, rfl, rfl, rfl, rfl⟩
    · refine gok hn ?_
      refine qn2398 _ _ ?_
      refine qn2386 _ _ ?_
      refine COk.seqQ fun Q2404 qn2404 qx2404 qr2404 => ?_
      refine gor hn ?_
      refine qn2404 _ _ ?_
      refine got hn ?_
      obtain rfl := Option.some.inj h
      exact ⟨[], _, rfl, (by repeat (first | exact trivial | exact rfl | (refine And.intro ?_ ?_))), trivial, rfl, rfl, rfl, rfl, rfl⟩
end Go.Proofs.Ytioalgofaiideaa
