/- Walks after the mirrors. Printed by mir.py. -/
import Derived.Test.YtoceeiamcfdnlaaWk3
namespace Go.Proofs.Ytoceeiamcfdnlaa
open Go.RowKit
set_option linter.unusedVariables false
/- qcref1.Make -/
set_option maxRecDepth 100000 in
set_option maxHeartbeats 1000000 in
theorem qcref1_Make_ok (N : Nat) (a0 : Wd) (a1 : ByteArray) (a2 : Int) (a3 : Int) (r : (Wd × Int × Int)) (h : qcref1_Make N a0 a1 a2 a3 = some r) : Spec Try.prog 41 [] [.agg (eWd a0), .str a1, .int a2, .int a3] (.tup [.agg (eWd r.1), .int r.2.1, .int r.2.2]) [] [] := by
  refine Spec.of tabOk Try.func41 rfl Try.ntmps41 (by kernel_rfl) rfl rfl rfl fun Γ hn => ?_
  unfold qcref1_Make at h
  refine COk.seqQ fun Q69 qn69 qx69 qr69 => ?_
  refine gor hn ?_
  refine qn69 _ _ ?_
  refine COk.seqQ fun Q70 qn70 qx70 qr70 => ?_
  refine COk.seqQ fun Q71 qn71 qx71 qr71 => ?_
  refine gor hn ?_
  obtain ⟨r1, hr2, h⟩ := bindM h
  show CallOk Try.prog _ _ _ _
  refine CallOk.as (qcref1_Name_ok N a1 r1 hr2) (by repeat (first | exact trivial | exact rfl | (refine And.intro ?_ ?_))) trivial rfl ?_
  refine qn71 _ _ ?_
  refine goc hn ?_
  refine bselM h (fun hb3 h => ?_) (fun hb3 h => ?_)
  · refine COk.seqQ fun Q73 qn73 qx73 qr73 => ?_
    refine gor hn ?_
    refine qn73 _ _ ?_
    refine got hn ?_
    refine qr70 _ _ ?_
    obtain rfl := Option.some.inj h
    exact ⟨[], _, rfl, (by repeat (first | exact trivial | exact rfl | (refine And.intro ?_ ?_))), trivial, rfl, rfl, rfl, rfl, rfl⟩
  · refine gok hn ?_
    refine qn70 _ _ ?_
    refine COk.seqQ fun Q74 qn74 qx74 qr74 => ?_
    refine COk.seqQ fun Q75 qn75 qx75 qr75 => ?_
    refine gor hn ?_
    refine lenM (fun hl4 => ?_)
    refine qn75 _ _ ?_
    obtain ⟨o6, h7, h⟩ := bindM h
    refine COk.joinR (ι := { s : Unit // o6 = Ctl.next s }) (fun s => [(1, .str a1), (2, .int a2), (3, .int a3), (4, .ptr 4 0), (8, .ptr 8 0)]) (fun s => [(4, .box (eWd a0) 26), (8, .box [.nilsl, .nilsl, .int (0 : Int)] 26)]) (fun Q102 qn102 qx102 qr102 => ?_) (by intro s; rw [hn]; rfl) ?_
    · refine COk.blkQ fun Q103 qn103 qe103 qx103 qr103 => ?_
      refine COk.loopQ (ι := { q : ((List Cl) × Nat) // q.1 = a0.classes.drop q.2 ∧ qcref1_Make_l1 N a1 q.1 q.2 = some o6 }) (fun q => [(1, .str a1), (2, .int a2), (3, .int a3), (4, .ptr 4 0), (8, .ptr 8 0), (19, .sl 4 (List.map eCl a0.classes)), (20, .int (a0.classes.length : Int)), (21, .int (q.1.2 : Int))]) (fun q => [(4, .box (eWd a0) 26), (8, .box [.nilsl, .nilsl, .int (0 : Int)] 26)]) (fun q => q.1.1.length) ⟨(a0.classes, 0), rfl, h7⟩ [] ⟨⟨rfl, rfl, rfl, rfl, rfl, (by repeat (first | exact trivial | exact rfl | (refine And.intro ?_ ?_))), rfl, rfl, trivial⟩, ⟨rfl, rfl, trivial⟩, rfl, rfl⟩ (by intro q; rw [hn]; rfl) ?_
      rintro ⟨⟨rest_, k5⟩, hd9, h7⟩ Q104 qn104 qx104 qr104
      replace hd9 : rest_ = a0.classes.drop k5 := hd9
      rcases rest_ with _ | ⟨x11, rest8⟩
      · have hlt13 := restNil hd9
        replace h7 := (qcref1_Make_l1.eq_1 _ _ _).symm.trans h7
        refine COk.seqQ fun Q105 qn105 qx105 qr105 => ?_
        refine gor hn ?_
        refine qn105 _ _ ?_
        refine COk.seqQ fun Q106 qn106 qx106 qr106 => ?_
        refine goc hn ?_
        refine bselF hlt13 ?_
        refine goe hn ?_
        refine qx106 _ _ _ ?_
        refine qx104 _ _ _ ?_
        refine qe103 _ _ ?_
        refine qn102 _ _ ?_
        obtain rfl := Option.some.inj h7
        refine EOk.done ?_
        exact ⟨⟨_, rfl⟩, [], trivial, ⟨⟨rfl, rfl, rfl, rfl, rfl, trivial⟩, ⟨rfl, rfl, trivial⟩, rfl, rfl⟩⟩
      · obtain ⟨hx12, hd2, hlt13⟩ := restCons hd9
        replace h7 := (qcref1_Make_l1.eq_2 _ _ _ _ _).symm.trans h7
        refine COk.seqQ fun Q107 qn107 qx107 qr107 => ?_
        refine gor hn ?_
        refine qn107 _ _ ?_
        refine COk.seqQ fun Q108 qn108 qx108 qr108 => ?_
        refine goc hn ?_
        refine bselT hlt13 ?_
        refine gok hn ?_
        refine qn108 _ _ ?_
        refine COk.seqQ fun Q109 qn109 qx109 qr109 => ?_
        refine COk.blkQ fun Q115 qn115 qe115 qx115 qr115 => ?_
        refine COk.seqQ fun Q116 qn116 qx116 qr116 => ?_
        refine gor hn ?_
        refine idxK hx12 ?_
        refine qn116 _ _ ?_
        refine COk.seqQ fun Q117 qn117 qx117 qr117 => ?_
        refine gor hn ?_
        refine qn117 _ _ ?_
        refine goc hn ?_
        refine bselM h7 (fun hb14 h7 => ?_) (fun hb14 h7 => ?_)
        · refine COk.seqQ fun Q119 qn119 qx119 qr119 => ?_
          refine gor hn ?_
          refine qn119 _ _ ?_
          refine got hn ?_
          refine qr115 _ _ ?_
          refine qr109 _ _ ?_
          refine qr104 _ _ ?_
          refine qr103 _ _ ?_
          refine qr102 _ _ ?_
          refine qr74 _ _ ?_
          obtain rfl := Option.some.inj h7
          obtain rfl := Option.some.inj h
          exact ⟨[], _, rfl, (by repeat (first | exact trivial | exact rfl | (refine And.intro ?_ ?_))), trivial, rfl, rfl, rfl, rfl, rfl⟩
        · refine gok hn ?_
          refine qn115 _ _ ?_
          refine qn109 _ _ ?_
          refine gor hn ?_
          refine Or.inl (And.intro (inrK hx12 hl4) ?_)
          refine qn104 _ _ ?_
          refine EOk.done ?_
          exact ⟨⟨(rest8, k5 + 1), hd2, h7⟩, [], by show rest8.length < rest8.length + 1; omega, ⟨⟨rfl, rfl, rfl, rfl, rfl, (by repeat (first | exact trivial | exact rfl | (refine And.intro ?_ ?_))), rfl, rfl, trivial⟩, ⟨rfl, rfl, trivial⟩, rfl, rfl⟩⟩
    rintro ⟨⟨⟩, rfl⟩
    refine qn74 _ _ ?_
    refine COk.seqQ fun Q120 qn120 qx120 qr120 => ?_
    refine COk.seqQ fun Q121 qn121 qx121 qr121 => ?_
    obtain ⟨o17, h16, h⟩ := bindM h
    refine COk.joinR (ι := { s : Bool // o17 = s }) (fun s => [(1, .str a1), (2, .int a2), (3, .int a3), (4, .ptr 4 0), (8, .ptr 8 0), (39, .bool s.1)]) (fun s => [(4, .box (eWd a0) 26), (8, .box [.nilsl, .nilsl, .int (0 : Int)] 26)]) (fun Q122 qn122 qx122 qr122 => ?_) (by intro s; rw [hn]; rfl) ?_
    · refine gor hn ?_
      refine bselM h16 (fun hb18 h16 => ?_) (fun hb18 h16 => ?_)
      · refine bselT hb18 ?_
        refine bselT hb18 ?_
        refine bselT hb18 ?_
        refine bselT hb18 ?_
        refine bselT hb18 ?_
        refine qn122 _ _ ?_
        obtain rfl := Option.some.inj h16
        refine EOk.done ?_
        exact ⟨⟨_, rfl⟩, [], trivial, ⟨⟨rfl, rfl, rfl, rfl, rfl, rfl, trivial⟩, ⟨rfl, rfl, trivial⟩, rfl, rfl⟩⟩
      · refine bselF hb18 ?_
        refine bselF hb18 ?_
        refine bselF hb18 ?_
        refine lenM (fun hl19 => ?_)
        refine bselF hb18 ?_
        refine bselF hb18 ?_
        refine qn122 _ _ ?_
        obtain rfl := Option.some.inj h16
        refine EOk.done ?_
        exact ⟨⟨_, rfl⟩, [], trivial, ⟨⟨rfl, rfl, rfl, rfl, rfl, rfl, trivial⟩, ⟨rfl, rfl, trivial⟩, rfl, rfl⟩⟩
    rintro ⟨v15, hv_⟩
    replace hv_ := hv_.symm
    subst hv_
    refine qn121 _ _ ?_
    refine goc hn ?_
    refine bselM h (fun hb20 h => ?_) (fun hb20 h => ?_)
    · refine COk.seqQ fun Q124 qn124 qx124 qr124 => ?_
      refine gor hn ?_
      refine qn124 _ _ ?_
      refine got hn ?_
      refine qr120 _ _ ?_
      obtain rfl := Option.some.inj h
      exact ⟨[], _, rfl, (by repeat (first | exact trivial | exact rfl | (refine And.intro ?_ ?_))), trivial, rfl, rfl, rfl, rfl, rfl⟩
    · refine gok hn ?_
      refine qn120 _ _ ?_
      refine COk.seqQ fun Q125 qn125 qx125 qr125 => ?_
      refine COk.seqQ fun Q126 qn126 qx126 qr126 => ?_
      obtain ⟨o23, h22, h⟩ := bindM h
      refine COk.joinR (ι := { s : Bool // o23 = s }) (fun s => [(1, .str a1), (2, .int a2), (3, .int a3), (4, .ptr 4 0), (8, .ptr 8 0), (62, .bool s.1)]) (fun s => [(4, .box (eWd a0) 26), (8, .box [.nilsl, .nilsl, .int (0 : Int)] 26)]) (fun Q127 qn127 qx127 qr127 => ?_) (by intro s; rw [hn]; rfl) ?_
      · refine gor hn ?_
        refine bselM h22 (fun hb24 h22 => ?_) (fun hb24 h22 => ?_)
        · refine bselT hb24 ?_
          refine bselT hb24 ?_
          refine qn127 _ _ ?_
          obtain rfl := Option.some.inj h22
          refine EOk.done ?_
          exact ⟨⟨_, rfl⟩, [], trivial, ⟨⟨rfl, rfl, rfl, rfl, rfl, rfl, trivial⟩, ⟨rfl, rfl, trivial⟩, rfl, rfl⟩⟩
        · refine bselF hb24 ?_
          refine bselF hb24 ?_
          refine bselM h22 (fun hb25 h22 => ?_) (fun hb25 h22 => ?_)
          · refine bselT hb25 ?_
            refine bselT hb25 ?_
            refine bselT hb25 ?_
            refine bselT hb25 ?_
            refine bselT hb25 ?_
            refine bselT hb25 ?_
            refine qn127 _ _ ?_
            obtain rfl := Option.some.inj h22
            refine EOk.done ?_
            exact ⟨⟨_, rfl⟩, [], trivial, ⟨⟨rfl, rfl, rfl, rfl, rfl, rfl, trivial⟩, ⟨rfl, rfl, trivial⟩, rfl, rfl⟩⟩
          · refine bselF hb25 ?_
            refine bselF hb25 ?_
            refine bselF hb25 ?_
            obtain ⟨r26, hr27, h22⟩ := bindM h22
            show CallOk Try.prog _ _ _ _
            refine CallOk.as (qcref1_Slots_ok N a0 a2 r26 hr27) (by repeat (first | exact trivial | exact rfl | (refine And.intro ?_ ?_))) trivial rfl ?_
            refine bselF hb25 ?_
            refine Or.inr ?_
            refine bselF hb25 ?_
            refine bselF hb25 ?_
            refine bselM h22 (fun hb28 h22 => ?_) (fun hb28 h22 => ?_)
            · refine bselT hb28 ?_
              refine bselT hb28 ?_
              refine bselT hb28 ?_
              refine bselT hb28 ?_
              refine qn127 _ _ ?_
              obtain rfl := Option.some.inj h22
              refine EOk.done ?_
              exact ⟨⟨_, rfl⟩, [], trivial, ⟨⟨rfl, rfl, rfl, rfl, rfl, rfl, trivial⟩, ⟨rfl, rfl, trivial⟩, rfl, rfl⟩⟩
            · refine bselF hb28 ?_
              refine bselF hb28 ?_
              refine bselM h22 (fun hb29 h22 => ?_) (fun hb29 h22 => ?_)
              · refine bselT hb29 ?_
                refine bselF hb28 ?_
                refine bselT hb29 ?_
                refine bselF hb28 ?_
                refine qn127 _ _ ?_
                obtain rfl := Option.some.inj h22
                refine EOk.done ?_
                exact ⟨⟨_, rfl⟩, [], trivial, ⟨⟨rfl, rfl, rfl, rfl, rfl, rfl, trivial⟩, ⟨rfl, rfl, trivial⟩, rfl, rfl⟩⟩
              · refine bselF hb29 ?_
                refine bselF hb28 ?_
                refine bselF hb29 ?_
                refine bselF hb28 ?_
                refine qn127 _ _ ?_
                obtain rfl := Option.some.inj h22
                refine EOk.done ?_
                exact ⟨⟨_, rfl⟩, [], trivial, ⟨⟨rfl, rfl, rfl, rfl, rfl, rfl, trivial⟩, ⟨rfl, rfl, trivial⟩, rfl, rfl⟩⟩
      rintro ⟨v21, hv_⟩
      replace hv_ := hv_.symm
      subst hv_
      refine qn126 _ _ ?_
      refine goc hn ?_
      refine bselM h (fun hb30 h => ?_) (fun hb30 h => ?_)
      · refine COk.seqQ fun Q129 qn129 qx129 qr129 => ?_
        refine gor hn ?_
        refine qn129 _ _ ?_
        refine got hn ?_
        refine qr125 _ _ ?_
        obtain rfl := Option.some.inj h
        exact ⟨[], _, rfl, (by repeat (first | exact trivial | exact rfl | (refine And.intro ?_ ?_))), trivial, rfl, rfl, rfl, rfl, rfl⟩
      · refine gok hn ?_
        refine qn125 _ _ ?_
        refine COk.seqQ fun Q130 qn130 qx130 qr130 => ?_
        refine COk.seqQ fun Q131 qn131 qx131 qr131 => ?_
        refine gor hn ?_
        refine lenM (fun hl31 => ?_)
        refine qn131 _ _ ?_
        refine goc hn ?_
        refine bselM h (fun hb32 h => ?_) (fun hb32 h => ?_)
        · refine COk.seqQ fun Q133 qn133 qx133 qr133 => ?_
          refine gor hn ?_
          refine qn133 _ _ ?_
          refine got hn ?_
          refine qr130 _ _ ?_
          obtain rfl := Option.some.inj h
          exact ⟨[], _, rfl, (by repeat (first | exact trivial | exact rfl | (refine And.intro ?_ ?_))), trivial, rfl, rfl, rfl, rfl, rfl⟩
        · refine gok hn ?_
          refine qn130 _ _ ?_
          refine COk.seqQ fun Q134 qn134 qx134 qr134 => ?_
          refine gor hn ?_
          refine lenM (fun hl33 => ?_)
          refine qn134 _ _ ?_
          refine COk.seqQ fun Q135 qn135 qx135 qr135 => ?_
          refine gor hn ?_
          refine Exists.intro (List.map eCl ([] : List Cl)) (And.intro (by repeat (first | exact trivial | exact rfl | (refine And.intro ?_ ?_))) ?_)
          obtain ⟨hg34, h⟩ := guardM h
          refine appM (l2 := a0.classes) hg34 (leLs_refl _) ?_
          refine Exists.intro (List.map eCl [(⟨a1, a2, a3, []⟩ : Cl)]) (And.intro (by repeat (first | exact trivial | exact rfl | (refine And.intro ?_ ?_))) ?_)
          obtain ⟨hg35, h⟩ := guardM h
          refine appM (l2 := [(⟨a1, a2, a3, []⟩ : Cl)]) hg35 (leLs_refl _) ?_
          refine qn135 _ _ ?_
          refine COk.seqQ fun Q136 qn136 qx136 qr136 => ?_
          refine COk.sub (ts2 := [(4, .ptr 4 0), (8, .ptr 8 0), (13, .int (a0.classes.length : Int))]) (os2 := [(4, .box [.own 81, .sl 2 (List.map eOb a0.heap), .int a0.epoch] 26), (8, .box [.nilsl, .nilsl, .int (0 : Int)] 26), (81, .row 4 (List.map eCl ((([] : List Cl) ++ a0.classes) ++ [(⟨a1, a2, a3, []⟩ : Cl)])) 60)]) [] ⟨⟨rfl, rfl, rfl, trivial⟩, ⟨rfl, rfl, rfl, trivial⟩, rfl, rfl⟩ (by rw [hn]; rfl) ?_
          refine gor hn ?_
          refine qn136 _ _ ?_
          refine COk.fzAll 81 rfl ?_
          refine got hn ?_
          obtain rfl := Option.some.inj h
          exact ⟨[], _, rfl, (by repeat (first | exact trivial | exact rfl | (refine And.intro ?_ ?_))), trivial, rfl, rfl, rfl, rfl, rfl⟩

/- qcref1.Install -/
set_option maxRecDepth 100000 in
set_option maxHeartbeats 1000000 in
theorem qcref1_Install_ok (N : Nat) (a0 : Wd) (a1 : Int) (a2 : Me) (r : (Wd × Int)) (h : qcref1_Install N a0 a1 a2 = some r) : Spec Try.prog 43 [] [.agg (eWd a0), .int a1, .agg (eMe a2)] (.tup [.agg (eWd r.1), .int r.2]) [] [] := by
  refine Spec.of tabOk Try.func43 rfl Try.ntmps43 (by kernel_rfl) rfl rfl rfl fun Γ hn => ?_
  unfold qcref1_Install at h
  refine COk.seqQ fun Q283 qn283 qx283 qr283 => ?_
  refine gor hn ?_
  refine qn283 _ _ ?_
  refine COk.seqQ fun Q284 qn284 qx284 qr284 => ?_
  refine COk.seqQ fun Q285 qn285 qx285 qr285 => ?_
  obtain ⟨o3, h2, h⟩ := bindM h
  refine COk.joinR (ι := { s : Bool // o3 = s }) (fun s => [(1, .int a1), (3, .ptr 3 0), (5, .ptr 5 0), (6, .ptr 6 0), (21, .bool s.1)]) (fun s => [(3, .box (eWd a0) 26), (5, .box (eMe a2) 64), (6, .box [.nilsl, .nilsl, .int (0 : Int)] 26)]) (fun Q286 qn286 qx286 qr286 => ?_) (by intro s; rw [hn]; rfl) ?_
  · refine gor hn ?_
    refine bselM h2 (fun hb4 h2 => ?_) (fun hb4 h2 => ?_)
    · refine bselT hb4 ?_
      refine bselT hb4 ?_
      refine bselT hb4 ?_
      refine bselT hb4 ?_
      refine bselT hb4 ?_
      refine qn286 _ _ ?_
      obtain rfl := Option.some.inj h2
      refine EOk.done ?_
      exact ⟨⟨_, rfl⟩, [], trivial, ⟨⟨rfl, rfl, rfl, rfl, rfl, trivial⟩, ⟨rfl, rfl, rfl, trivial⟩, rfl, rfl⟩⟩
    · refine bselF hb4 ?_
      refine bselF hb4 ?_
      refine bselF hb4 ?_
      refine lenM (fun hl5 => ?_)
      refine bselF hb4 ?_
      refine bselF hb4 ?_
      refine qn286 _ _ ?_
      obtain rfl := Option.some.inj h2
      refine EOk.done ?_
      exact ⟨⟨_, rfl⟩, [], trivial, ⟨⟨rfl, rfl, rfl, rfl, rfl, trivial⟩, ⟨rfl, rfl, rfl, trivial⟩, rfl, rfl⟩⟩
  rintro ⟨v1, hv_⟩
  replace hv_ := hv_.symm
  subst hv_
  refine qn285 _ _ ?_
  refine goc hn ?_
  refine bselM h (fun hb6 h => ?_) (fun hb6 h => ?_)
  · refine COk.seqQ fun Q288 qn288 qx288 qr288 => ?_
    refine gor hn ?_
    refine qn288 _ _ ?_
    refine got hn ?_
    refine qr284 _ _ ?_
    obtain rfl := Option.some.inj h
    exact ⟨[], _, rfl, (by repeat (first | exact trivial | exact rfl | (refine And.intro ?_ ?_))), trivial, rfl, rfl, rfl, rfl, rfl⟩
  · refine gok hn ?_
    refine qn284 _ _ ?_
    refine COk.seqQ fun Q289 qn289 qx289 qr289 => ?_
    refine gor hn ?_
    refine qn289 _ _ ?_
    refine COk.seqQ fun Q290 qn290 qx290 qr290 => ?_
    refine gor hn ?_
    refine qn290 _ _ ?_
    refine COk.seqQ fun Q291 qn291 qx291 qr291 => ?_
    refine COk.seqQ fun Q292 qn292 qx292 qr292 => ?_
    refine gor hn ?_
    obtain ⟨x7, hx8, h⟩ := bindM h
    refine idxM hx8 ?_
    refine lenM (fun hl9 => ?_)
    refine qn292 _ _ ?_
    refine COk.nilrow 8 208 5 64 rfl rfl rfl ?_
    obtain ⟨o20, h21, h⟩ := bindM h
    refine COk.joinR (ι := { s : ((List Me) × Bool × Bool) // o20 = s }) (fun s => [(1, .int a1), (3, .ptr 3 0), (5, .ptr 5 0), (6, .ptr 6 0), (8, .own 208), (9, .bool s.1.2.1), (10, .bool s.1.2.2)]) (fun s => [(3, .box (eWd a0) 26), (5, .box (eMe a2) 64), (6, .box [.nilsl, .nilsl, .int (0 : Int)] 26), (208, .row 5 (List.map eMe s.1.1) 64)]) (fun Q499 qn499 qx499 qr499 => ?_) (by intro s; rw [hn]; rfl) ?_
    · refine COk.blkQ fun Q500 qn500 qe500 qx500 qr500 => ?_
      refine COk.loopQ (ι := { q : ((List Me) × Nat × (List Me) × Bool × Bool) // q.1 = x7.methods.drop q.2.1 ∧ qcref1_Install_l1 N a2 q.1 q.2.1 q.2.2.1 q.2.2.2.1 q.2.2.2.2 = some o20 }) (fun q => [(1, .int a1), (3, .ptr 3 0), (5, .ptr 5 0), (6, .ptr 6 0), (8, .own 208), (9, .bool q.1.2.2.2.1), (10, .bool q.1.2.2.2.2), (28, .sl 5 (List.map eMe x7.methods)), (29, .int (x7.methods.length : Int)), (30, .int (q.1.2.1 : Int))]) (fun q => [(3, .box (eWd a0) 26), (5, .box (eMe a2) 64), (6, .box [.nilsl, .nilsl, .int (0 : Int)] 26), (208, .row 5 (List.map eMe q.1.2.2.1) 64)]) (fun q => q.1.1.length) ⟨(x7.methods, 0, ([] : List Me), false, false), rfl, h21⟩ [] ⟨⟨rfl, rfl, rfl, rfl, rfl, rfl, rfl, (by repeat (first | exact trivial | exact rfl | (refine And.intro ?_ ?_))), rfl, rfl, trivial⟩, ⟨rfl, rfl, rfl, rfl, trivial⟩, rfl, rfl⟩ (by intro q; rw [hn]; rfl) ?_
      rintro ⟨⟨rest_, k10, v11, v12, v13⟩, hd23, h21⟩ Q501 qn501 qx501 qr501
      replace hd23 : rest_ = x7.methods.drop k10 := hd23
      rcases rest_ with _ | ⟨x25, rest22⟩
      · have hlt27 := restNil hd23
        replace h21 := (qcref1_Install_l1.eq_1 _ _ _ _ _ _).symm.trans h21
        refine COk.seqQ fun Q502 qn502 qx502 qr502 => ?_
        refine gor hn ?_
        refine qn502 _ _ ?_
        refine COk.seqQ fun Q503 qn503 qx503 qr503 => ?_
        refine goc hn ?_
        refine bselF hlt27 ?_
        refine goe hn ?_
        refine qx503 _ _ _ ?_
        refine qx501 _ _ _ ?_
        refine qe500 _ _ ?_
        refine qn499 _ _ ?_
        obtain rfl := Option.some.inj h21
        refine EOk.done ?_
        exact ⟨⟨_, rfl⟩, [], trivial, ⟨⟨rfl, rfl, rfl, rfl, rfl, rfl, rfl, trivial⟩, ⟨rfl, rfl, rfl, rfl, trivial⟩, rfl, rfl⟩⟩
      · obtain ⟨hx26, hd2, hlt27⟩ := restCons hd23
        replace h21 := (qcref1_Install_l1.eq_2 _ _ _ _ _ _ _ _).symm.trans h21
        refine COk.seqQ fun Q504 qn504 qx504 qr504 => ?_
        refine gor hn ?_
        refine qn504 _ _ ?_
        refine COk.seqQ fun Q505 qn505 qx505 qr505 => ?_
        refine goc hn ?_
        refine bselT hlt27 ?_
        refine gok hn ?_
        refine qn505 _ _ ?_
        refine COk.seqQ fun Q506 qn506 qx506 qr506 => ?_
        obtain ⟨o32, h31, h21⟩ := bindM h21
        refine COk.joinR (ι := { s : ((List Me) × Bool × Bool) // o32 = s }) (fun s => [(1, .int a1), (3, .ptr 3 0), (5, .ptr 5 0), (6, .ptr 6 0), (8, .own 42), (9, .bool s.1.2.1), (10, .bool s.1.2.2), (28, .sl 5 (List.map eMe x7.methods)), (29, .int (x7.methods.length : Int)), (30, .int (k10 : Int))]) (fun s => [(3, .box (eWd a0) 26), (5, .box (eMe a2) 64), (6, .box [.nilsl, .nilsl, .int (0 : Int)] 26), (42, .row 5 (List.map eMe s.1.1) 64)]) (fun Q537 qn537 qx537 qr537 => ?_) (by intro s; rw [hn]; rfl) ?_
        · refine COk.blkQ fun Q538 qn538 qe538 qx538 qr538 => ?_
          refine COk.seqQ fun Q539 qn539 qx539 qr539 => ?_
          refine gor hn ?_
          refine idxK hx26 ?_
          refine qn539 _ _ ?_
          refine COk.seqQ fun Q540 qn540 qx540 qr540 => ?_
          refine COk.seqQ fun Q541 qn541 qx541 qr541 => ?_
          refine gor hn ?_
          refine qn541 _ _ ?_
          refine goc hn ?_
          refine bselM h31 (fun hb33 h31 => ?_) (fun hb33 h31 => ?_)
          · refine COk.seqQ fun Q544 qn544 qx544 qr544 => ?_
            refine COk.sub (ts2 := [(1, .int a1), (3, .ptr 3 0), (5, .ptr 5 0), (6, .ptr 6 0), (8, .own 208), (28, .sl 5 (List.map eMe x7.methods)), (29, .int (x7.methods.length : Int)), (30, .int (k10 : Int))]) (os2 := [(3, .box (eWd a0) 26), (5, .box (eMe a2) 64), (6, .box [.nilsl, .nilsl, .int (0 : Int)] 26), (208, .row 5 (List.map eMe v11) 64)]) [] ⟨⟨rfl, rfl, rfl, rfl, rfl, (by repeat (first | exact trivial | exact rfl | (refine And.intro ?_ ?_))), rfl, rfl, trivial⟩, ⟨rfl, rfl, rfl, rfl, trivial⟩, rfl, rfl⟩ (by rw [hn]; rfl) ?_
            refine gor hn ?_
            refine Exists.intro (List.map eMe [a2]) (And.intro (by repeat (first | exact trivial | exact rfl | (refine And.intro ?_ ?_))) ?_)
            obtain ⟨hg34, h31⟩ := guardM h31
            refine appM (l2 := [a2]) hg34 (leLs_refl _) ?_
            refine qn544 _ _ ?_
            refine COk.seqQ fun Q545 qn545 qx545 qr545 => ?_
            refine gor hn ?_
            refine qn545 _ _ ?_
            refine goe hn ?_
            refine qx540 _ _ _ ?_
            refine qe538 _ _ ?_
            refine qn537 _ _ ?_
            obtain rfl := Option.some.inj h31
            refine EOk.done ?_
            exact ⟨⟨_, rfl⟩, [], trivial, ⟨⟨rfl, rfl, rfl, rfl, rfl, rfl, rfl, (by repeat (first | exact trivial | exact rfl | (refine And.intro ?_ ?_))), rfl, rfl, trivial⟩, ⟨rfl, rfl, rfl, rfl, trivial⟩, rfl, rfl⟩⟩
          · refine gok hn ?_
            refine qn540 _ _ ?_
            refine COk.seqQ fun Q546 qn546 qx546 qr546 => ?_
            refine COk.seqQ fun Q547 qn547 qx547 qr547 => ?_
            obtain ⟨o37, h36, h31⟩ := bindM h31
            refine COk.joinR (ι := { s : Bool // o37 = s }) (fun s => [(1, .int a1), (3, .ptr 3 0), (5, .ptr 5 0), (6, .ptr 6 0), (8, .own 208), (9, .bool v12), (10, .bool v13), (12, .ptr 12 0), (28, .sl 5 (List.map eMe x7.methods)), (29, .int (x7.methods.length : Int)), (30, .int (k10 : Int)), (51, .bool s.1)]) (fun s => [(3, .box (eWd a0) 26), (5, .box (eMe a2) 64), (6, .box [.nilsl, .nilsl, .int (0 : Int)] 26), (12, .box (eMe x25) 64), (208, .row 5 (List.map eMe v11) 64)]) (fun Q548 qn548 qx548 qr548 => ?_) (by intro s; rw [hn]; rfl) ?_
            · refine COk.sub (ts2 := [(1, .int a1), (3, .ptr 3 0), (5, .ptr 5 0), (6, .ptr 6 0), (8, .own 208), (9, .bool v12), (10, .bool v13), (12, .ptr 12 0), (28, .sl 5 (List.map eMe x7.methods)), (29, .int (x7.methods.length : Int)), (30, .int (k10 : Int))]) (os2 := [(3, .box (eWd a0) 26), (5, .box (eMe a2) 64), (6, .box [.nilsl, .nilsl, .int (0 : Int)] 26), (12, .box (eMe x25) 64), (208, .row 5 (List.map eMe v11) 64)]) [] ⟨⟨rfl, rfl, rfl, rfl, rfl, rfl, rfl, rfl, (by repeat (first | exact trivial | exact rfl | (refine And.intro ?_ ?_))), rfl, rfl, trivial⟩, ⟨rfl, rfl, rfl, rfl, rfl, trivial⟩, rfl, rfl⟩ (by rw [hn]; rfl) ?_
              refine gor hn ?_
              refine bselM h36 (fun hb38 h36 => ?_) (fun hb38 h36 => ?_)
              · refine bselT hb38 ?_
                refine bselT hb38 ?_
                refine bselT hb38 ?_
                refine bselT hb38 ?_
                refine bselT hb38 ?_
                refine qn548 _ _ ?_
                obtain rfl := Option.some.inj h36
                refine EOk.done ?_
                exact ⟨⟨_, rfl⟩, [], trivial, ⟨⟨rfl, rfl, rfl, rfl, rfl, rfl, rfl, rfl, (by repeat (first | exact trivial | exact rfl | (refine And.intro ?_ ?_))), rfl, rfl, rfl, trivial⟩, ⟨rfl, rfl, rfl, rfl, rfl, trivial⟩, rfl, rfl⟩⟩
              · refine bselF hb38 ?_
                refine bselF hb38 ?_
                refine bselF hb38 ?_
                refine bselF hb38 ?_
                refine bselF hb38 ?_
                refine qn548 _ _ ?_
                obtain rfl := Option.some.inj h36
                refine EOk.done ?_
                exact ⟨⟨_, rfl⟩, [], trivial, ⟨⟨rfl, rfl, rfl, rfl, rfl, rfl, rfl, rfl, (by repeat (first | exact trivial | exact rfl | (refine And.intro ?_ ?_))), rfl, rfl, rfl, trivial⟩, ⟨rfl, rfl, rfl, rfl, rfl, trivial⟩, rfl, rfl⟩⟩
            rintro ⟨v35, hv_⟩
            replace hv_ := hv_.symm
            subst hv_
            refine qn547 _ _ ?_
            obtain ⟨o42, h41, h31⟩ := bindM h31
            refine COk.joinR (ι := { s : ((List Me) × Bool) // o42 = s }) (fun s => [(1, .int a1), (3, .ptr 3 0), (5, .ptr 5 0), (6, .ptr 6 0), (8, .own 55), (9, .bool s.1.2), (10, .bool v13), (12, .ptr 12 0), (28, .sl 5 (List.map eMe x7.methods)), (29, .int (x7.methods.length : Int)), (30, .int (k10 : Int))]) (fun s => [(3, .box (eWd a0) 26), (5, .box (eMe a2) 64), (6, .box [.nilsl, .nilsl, .int (0 : Int)] 26), (12, .box (eMe x25) 64), (55, .row 5 (List.map eMe s.1.1) 64)]) (fun Q551 qn551 qx551 qr551 => ?_) (by intro s; rw [hn]; rfl) ?_
            · refine goc hn ?_
              refine bselM h41 (fun hb43 h41 => ?_) (fun hb43 h41 => ?_)
              · refine COk.seqQ fun Q552 qn552 qx552 qr552 => ?_
                refine gor hn ?_
                refine Exists.intro (List.map eMe [a2]) (And.intro (by repeat (first | exact trivial | exact rfl | (refine And.intro ?_ ?_))) ?_)
                obtain ⟨hg44, h41⟩ := guardM h41
                refine appM (l2 := [a2]) hg44 (leLs_refl _) ?_
                refine qn552 _ _ ?_
                refine gor hn ?_
                refine qn551 _ _ ?_
                obtain rfl := Option.some.inj h41
                refine EOk.done ?_
                exact ⟨⟨_, rfl⟩, [], trivial, ⟨⟨rfl, rfl, rfl, rfl, rfl, rfl, rfl, rfl, (by repeat (first | exact trivial | exact rfl | (refine And.intro ?_ ?_))), rfl, rfl, trivial⟩, ⟨rfl, rfl, rfl, rfl, rfl, trivial⟩, rfl, rfl⟩⟩
              · refine gok hn ?_
                refine qn551 _ _ ?_
                obtain rfl := Option.some.inj h41
                refine EOk.done ?_
                exact ⟨⟨_, rfl⟩, [(55, 208)], trivial, ⟨⟨rfl, rfl, rfl, rfl, rfl, rfl, rfl, rfl, (by repeat (first | exact trivial | exact rfl | (refine And.intro ?_ ?_))), rfl, rfl, trivial⟩, ⟨rfl, rfl, rfl, rfl, rfl, trivial⟩, rfl, rfl⟩⟩
            rintro ⟨⟨v39, v40⟩, rfl⟩
            refine qn546 _ _ ?_
            refine gor hn ?_
            refine Exists.intro (List.map eMe [x25]) (And.intro (by repeat (first | exact trivial | exact rfl | (refine And.intro ?_ ?_))) ?_)
            obtain ⟨hg45, h31⟩ := guardM h31
            refine appM (l2 := [x25]) hg45 (leLs_refl _) ?_
            refine qn538 _ _ ?_
            refine qn537 _ _ ?_
            obtain rfl := Option.some.inj h31
            refine EOk.done ?_
            exact ⟨⟨_, rfl⟩, [(42, 59)], trivial, ⟨⟨rfl, rfl, rfl, rfl, rfl, rfl, rfl, (by repeat (first | exact trivial | exact rfl | (refine And.intro ?_ ?_))), rfl, rfl, trivial⟩, ⟨rfl, rfl, rfl, rfl, trivial⟩, rfl, rfl⟩⟩
        rintro ⟨⟨v28, v29, v30⟩, rfl⟩
        refine qn506 _ _ ?_
        refine gor hn ?_
        refine Or.inl (And.intro (inrK hx26 hl9) ?_)
        refine qn501 _ _ ?_
        refine EOk.done ?_
        exact ⟨⟨(rest22, k10 + 1, v28, v29, v30), hd2, h21⟩, [(208, 42)], by show rest22.length < rest22.length + 1; omega, ⟨⟨rfl, rfl, rfl, rfl, rfl, rfl, rfl, (by repeat (first | exact trivial | exact rfl | (refine And.intro ?_ ?_))), rfl, rfl, trivial⟩, ⟨rfl, rfl, rfl, rfl, trivial⟩, rfl, rfl⟩⟩
    rintro ⟨⟨v17, v18, v19⟩, rfl⟩
    refine qn291 _ _ ?_
    refine COk.seqQ fun Q553 qn553 qx553 qr553 => ?_
    refine COk.seqQ fun Q554 qn554 qx554 qr554 => ?_
    refine gor hn ?_
    refine qn554 _ _ ?_
    obtain ⟨o48, h47, h⟩ := bindM h
    refine COk.joinR (ι := { s : (List Me) // o48 = s }) (fun s => [(1, .int a1), (3, .ptr 3 0), (6, .ptr 6 0), (8, .own 66), (10, .bool v19)]) (fun s => [(3, .box (eWd a0) 26), (6, .box [.nilsl, .nilsl, .int (0 : Int)] 26), (66, .row 5 (List.map eMe s.1) 64)]) (fun Q555 qn555 qx555 qr555 => ?_) (by intro s; rw [hn]; rfl) ?_
    · refine goc hn ?_
      refine bselM h47 (fun hb49 h47 => ?_) (fun hb49 h47 => ?_)
      · refine gor hn ?_
        refine Exists.intro (List.map eMe [a2]) (And.intro (by repeat (first | exact trivial | exact rfl | (refine And.intro ?_ ?_))) ?_)
        obtain ⟨hg50, h47⟩ := guardM h47
        refine appM (l2 := [a2]) hg50 (leLs_refl _) ?_
        refine qn555 _ _ ?_
        obtain rfl := Option.some.inj h47
        refine EOk.done ?_
        exact ⟨⟨_, rfl⟩, [], trivial, ⟨⟨rfl, rfl, rfl, rfl, rfl, trivial⟩, ⟨rfl, rfl, rfl, trivial⟩, rfl, rfl⟩⟩
      · refine gok hn ?_
        refine qn555 _ _ ?_
        obtain rfl := Option.some.inj h47
        refine EOk.done ?_
        exact ⟨⟨_, rfl⟩, [(66, 208)], trivial, ⟨⟨rfl, rfl, rfl, rfl, rfl, trivial⟩, ⟨rfl, rfl, rfl, trivial⟩, rfl, rfl⟩⟩
    rintro ⟨v46, hv_⟩
    replace hv_ := hv_.symm
    subst hv_
    refine qn553 _ _ ?_
    refine COk.seqQ fun Q556 qn556 qx556 qr556 => ?_
    refine COk.seqQ fun Q557 qn557 qx557 qr557 => ?_
    obtain ⟨o53, h52, h⟩ := bindM h
    refine COk.joinR (ι := { s : Bool // o53 = s }) (fun s => [(1, .int a1), (3, .ptr 3 0), (6, .ptr 6 0), (8, .own 66), (78, .bool s.1)]) (fun s => [(3, .box (eWd a0) 26), (6, .box [.nilsl, .nilsl, .int (0 : Int)] 26), (66, .row 5 (List.map eMe v46) 64)]) (fun Q558 qn558 qx558 qr558 => ?_) (by intro s; rw [hn]; rfl) ?_
    · refine gor hn ?_
      refine bselM h52 (fun hb54 h52 => ?_) (fun hb54 h52 => ?_)
      · refine bselT hb54 ?_
        refine bselT hb54 ?_
        refine bselT hb54 ?_
        obtain ⟨x55, hx56, h52⟩ := bindM h52
        refine idxM hx56 ?_
        refine bselT hb54 ?_
        refine bselT hb54 ?_
        refine bselT hb54 ?_
        refine lenM (fun hl57 => ?_)
        refine bselT hb54 ?_
        refine bselT hb54 ?_
        refine qn558 _ _ ?_
        obtain rfl := Option.some.inj h52
        refine EOk.done ?_
        exact ⟨⟨_, rfl⟩, [], trivial, ⟨⟨rfl, rfl, rfl, rfl, rfl, trivial⟩, ⟨rfl, rfl, rfl, trivial⟩, rfl, rfl⟩⟩
      · refine bselF hb54 ?_
        refine bselF hb54 ?_
        refine bselF hb54 ?_
        refine bselF hb54 ?_
        refine bselF hb54 ?_
        refine bselF hb54 ?_
        refine bselF hb54 ?_
        refine bselF hb54 ?_
        refine qn558 _ _ ?_
        obtain rfl := Option.some.inj h52
        refine EOk.done ?_
        exact ⟨⟨_, rfl⟩, [], trivial, ⟨⟨rfl, rfl, rfl, rfl, rfl, trivial⟩, ⟨rfl, rfl, rfl, trivial⟩, rfl, rfl⟩⟩
    rintro ⟨v51, hv_⟩
    replace hv_ := hv_.symm
    subst hv_
    refine qn557 _ _ ?_
    refine goc hn ?_
    refine bselM h (fun hb58 h => ?_) (fun hb58 h => ?_)
    · refine COk.seqQ fun Q560 qn560 qx560 qr560 => ?_
      refine gor hn ?_
      refine qn560 _ _ ?_
      refine got hn ?_
      refine qr556 _ _ ?_
      obtain rfl := Option.some.inj h
      exact ⟨[], _, rfl, (by repeat (first | exact trivial | exact rfl | (refine And.intro ?_ ?_))), trivial, rfl, rfl, rfl, rfl, rfl⟩
    · refine gok hn ?_
      refine qn556 _ _ ?_
      refine COk.seqQ fun Q561 qn561 qx561 qr561 => ?_
      refine gor hn ?_
      refine Exists.intro (List.map eCl ([] : List Cl)) (And.intro (by repeat (first | exact trivial | exact rfl | (refine And.intro ?_ ?_))) ?_)
      obtain ⟨hg59, h⟩ := guardM h
      refine appM (l2 := a0.classes) hg59 (leLs_refl _) ?_
      refine qn561 _ _ ?_
      refine COk.seqQ fun Q562 qn562 qx562 qr562 => ?_
      refine COk.fzAll 66 rfl ?_
      refine COk.sub (ts2 := [(1, .int a1), (3, .ptr 3 0), (6, .ptr 6 0), (8, .sl 5 (List.map eMe v46))]) (os2 := [(3, .box [.own 83, .sl 2 (List.map eOb a0.heap), .int a0.epoch] 26), (6, .box [.nilsl, .nilsl, .int (0 : Int)] 26), (83, .row 4 (List.map eCl (([] : List Cl) ++ a0.classes)) 60)]) [] ⟨⟨rfl, rfl, rfl, (by repeat (first | exact trivial | exact rfl | (refine And.intro ?_ ?_))), trivial⟩, ⟨rfl, rfl, rfl, trivial⟩, rfl, rfl⟩ (by rw [hn]; rfl) ?_
      refine gor hn ?_
      obtain ⟨x60, hx61, h⟩ := bindM h
      refine ownM hx61 ?_
      refine ldM (nthO_some hx61).2 ?_
      refine Exists.intro (List.map eCl ((([] : List Cl) ++ a0.classes).set a1.toNat (⟨x60.name, x60.super, x60.slots, v46⟩ : Cl))) (And.intro (leLs_set (nthO_some hx61).2 (by repeat (first | exact trivial | exact rfl | (refine And.intro ?_ ?_)))) ?_)
      refine qn562 _ _ ?_
      refine COk.seqQ fun Q563 qn563 qx563 qr563 => ?_
      refine gor hn ?_
      refine Or.inr ?_
      refine qn563 _ _ ?_
      refine COk.seqQ fun Q564 qn564 qx564 qr564 => ?_
      refine gor hn ?_
      refine qn564 _ _ ?_
      refine COk.fzAll 83 rfl ?_
      refine got hn ?_
      obtain rfl := Option.some.inj h
      exact ⟨[], _, rfl, (by repeat (first | exact trivial | exact rfl | (refine And.intro ?_ ?_))), trivial, rfl, rfl, rfl, rfl, rfl⟩

/- qclaw10.alive -/
set_option maxRecDepth 100000 in
set_option maxHeartbeats 1000000 in
theorem qclaw10_alive_ok (N : Nat) (r : Bool) (h : qclaw10_alive N  = some r) : Spec Try.prog 27 [] [] (.bool r) [] [] := by
  refine Spec.of tabOk Try.func27 rfl Try.ntmps27 (by kernel_rfl) rfl rfl rfl fun Γ hn => ?_
  unfold qclaw10_alive at h
  refine COk.seqQ fun Q9 qn9 qx9 qr9 => ?_
  refine gor hn ?_
  refine qn9 _ _ ?_
  refine COk.seqQ fun Q10 qn10 qx10 qr10 => ?_
  refine gor hn ?_
  obtain ⟨r1, hr2, h⟩ := bindM h
  show CallOk Try.prog _ _ _ _
  refine CallOk.as (qcref1_New_ok N  r1 hr2) (by repeat (first | exact trivial | exact rfl | (refine And.intro ?_ ?_))) trivial rfl ?_
  obtain ⟨r3, hr4, h⟩ := bindM h
  show CallOk Try.prog _ _ _ _
  refine CallOk.as (qcref1_Make_ok N r1 (⟨#[65]⟩ : ByteArray) (0 : Int) (1 : Int) r3 hr4) (by repeat (first | exact trivial | exact rfl | (refine And.intro ?_ ?_))) trivial rfl ?_
  refine qn10 _ _ ?_
  refine COk.seqQ fun Q11 qn11 qx11 qr11 => ?_
  refine gor hn ?_
  refine Exists.intro (List.map eIns [(⟨(4 : Int), (0 : Int), (0 : Int), (0 : Int), ByteArray.empty⟩ : Ins), (⟨(17 : Int), (0 : Int), (0 : Int), (0 : Int), ByteArray.empty⟩ : Ins)]) (And.intro (by repeat (first | exact trivial | exact rfl | (refine And.intro ?_ ?_))) ?_)
  obtain ⟨r5, hr6, h⟩ := bindM h
  show CallOk Try.prog _ _ _ _
  refine CallOk.fz (qcref1_Install_ok N r3.1 r3.2.1 (⟨(⟨#[103]⟩ : ByteArray), (0 : Int), (0 : Int), (0 : Int), [(⟨(4 : Int), (0 : Int), (0 : Int), (0 : Int), ByteArray.empty⟩ : Ins), (⟨(17 : Int), (0 : Int), (0 : Int), (0 : Int), ByteArray.empty⟩ : Ins)]⟩ : Me) r5 hr6) (by repeat (first | exact trivial | exact rfl | (refine And.intro ?_ ?_))) trivial rfl rfl ?_
  refine qn11 _ _ ?_
  refine COk.seqQ fun Q12 qn12 qx12 qr12 => ?_
  refine COk.sub (ts2 := [(1, .ptr 1 0), (2, .int r3.2.1)]) (os2 := [(1, .box (eWd r5.1) 26)]) [] ⟨⟨rfl, rfl, trivial⟩, ⟨rfl, trivial⟩, rfl, rfl⟩ (by rw [hn]; rfl) ?_
  refine gor hn ?_
  refine Exists.intro (List.map eIns [(⟨(1 : Int), (0 : Int), (0 : Int), (0 : Int), ByteArray.empty⟩ : Ins), (⟨(14 : Int), (0 : Int), (0 : Int), (0 : Int), (⟨#[103]⟩ : ByteArray)⟩ : Ins), (⟨(17 : Int), (0 : Int), (0 : Int), (0 : Int), ByteArray.empty⟩ : Ins)]) (And.intro (by repeat (first | exact trivial | exact rfl | (refine And.intro ?_ ?_))) ?_)
  obtain ⟨r7, hr8, h⟩ := bindM h
  show CallOk Try.prog _ _ _ _
  refine CallOk.fz (qcref1_Install_ok N r5.1 r3.2.1 (⟨(⟨#[109]⟩ : ByteArray), (0 : Int), (0 : Int), (0 : Int), [(⟨(1 : Int), (0 : Int), (0 : Int), (0 : Int), ByteArray.empty⟩ : Ins), (⟨(14 : Int), (0 : Int), (0 : Int), (0 : Int), (⟨#[103]⟩ : ByteArray)⟩ : Ins), (⟨(17 : Int), (0 : Int), (0 : Int), (0 : Int), ByteArray.empty⟩ : Ins)]⟩ : Me) r7 hr8) (by repeat (first | exact trivial | exact rfl | (refine And.intro ?_ ?_))) trivial rfl rfl ?_
  refine qn12 _ _ ?_
  refine COk.seqQ fun Q13 qn13 qx13 qr13 => ?_
  refine gor hn ?_
  refine Exists.intro (List.map eInt [(-1 : Int), r3.2.1, (-1 : Int)]) (And.intro (by repeat (first | exact trivial | exact rfl | (refine And.intro ?_ ?_))) ?_)
  obtain ⟨r9, hr10, h⟩ := bindM h
  show CallOk Try.prog _ _ _ _
  refine CallOk.fz (inline_Method_ok N r7.1 r3.2.1 (1 : Int) [(-1 : Int), r3.2.1, (-1 : Int)] r9 hr10) (by repeat (first | exact trivial | exact rfl | (refine And.intro ?_ ?_))) trivial rfl rfl ?_
  refine qn13 _ _ ?_
  refine COk.seqQ fun Q14 qn14 qx14 qr14 => ?_
  refine COk.sub (ts2 := [(1, .ptr 1 0), (2, .int r3.2.1), (4, .ptr 4 0), (5, .bool r9.2)]) (os2 := [(1, .box (eWd r7.1) 26), (4, .box (eFs r9.1) 53)]) [] ⟨⟨rfl, rfl, rfl, rfl, trivial⟩, ⟨rfl, rfl, trivial⟩, rfl, rfl⟩ (by rw [hn]; rfl) ?_
  refine gor hn ?_
  obtain ⟨r11, hr12, h⟩ := bindM h
  show CallOk Try.prog _ _ _ _
  refine CallOk.as (inline_Method_ok N r7.1 r3.2.1 (1 : Int) [] r11 hr12) (by repeat (first | exact trivial | exact rfl | (refine And.intro ?_ ?_))) trivial rfl ?_
  refine qn14 _ _ ?_
  refine COk.seqQ fun Q15 qn15 qx15 qr15 => ?_
  obtain ⟨o15, h14, h⟩ := bindM h
  refine COk.joinR (ι := { s : Bool // o15 = s }) (fun s => [(0, .bool s.1)]) (fun s => []) (fun Q16 qn16 qx16 qr16 => ?_) (by intro s; rw [hn]; rfl) ?_
  · refine gor hn ?_
    refine bselM h14 (fun hb16 h14 => ?_) (fun hb16 h14 => ?_)
    · refine bselT hb16 ?_
      refine bselT hb16 ?_
      refine bselM h14 (fun hb17 h14 => ?_) (fun hb17 h14 => ?_)
      · refine bselT hb17 ?_
        refine bselT hb17 ?_
        refine bselT hb17 ?_
        refine bselT hb17 ?_
        refine bselM h14 (fun hb18 h14 => ?_) (fun hb18 h14 => ?_)
        · refine bselT hb18 ?_
          refine bselT hb18 ?_
          refine bselT hb18 ?_
          refine bselM h14 (fun hb19 h14 => ?_) (fun hb19 h14 => ?_)
          · refine bselT hb19 ?_
            refine bselT hb19 ?_
            refine bselT hb19 ?_
            refine bselM h14 (fun hb20 h14 => ?_) (fun hb20 h14 => ?_)
            · refine bselT hb20 ?_
              refine bselT hb20 ?_
              refine lenM (fun hl21 => ?_)
              refine bselT hb20 ?_
              refine bselT hb20 ?_
              refine bselM h14 (fun hb22 h14 => ?_) (fun hb22 h14 => ?_)
              · refine bselT hb22 ?_
                refine bselT hb22 ?_
                obtain ⟨x23, hx24, h14⟩ := bindM h14
                refine idxM hx24 ?_
                refine bselT hb22 ?_
                refine bselT hb22 ?_
                refine bselT hb22 ?_
                refine bselT hb22 ?_
                refine qn16 _ _ ?_
                obtain rfl := Option.some.inj h14
                refine EOk.done ?_
                exact ⟨⟨_, rfl⟩, [], trivial, ⟨⟨rfl, trivial⟩, trivial, rfl, rfl⟩⟩
              · refine bselF hb22 ?_
                refine bselF hb22 ?_
                refine bselF hb22 ?_
                refine bselF hb22 ?_
                refine bselF hb22 ?_
                refine bselF hb22 ?_
                refine qn16 _ _ ?_
                obtain rfl := Option.some.inj h14
                refine EOk.done ?_
                exact ⟨⟨_, rfl⟩, [], trivial, ⟨⟨rfl, trivial⟩, trivial, rfl, rfl⟩⟩
            · refine bselF hb20 ?_
              refine bselF hb20 ?_
              refine bselF hb20 ?_
              refine bselF hb20 ?_
              refine qn16 _ _ ?_
              obtain rfl := Option.some.inj h14
              refine EOk.done ?_
              exact ⟨⟨_, rfl⟩, [], trivial, ⟨⟨rfl, trivial⟩, trivial, rfl, rfl⟩⟩
          · refine bselF hb19 ?_
            refine bselF hb19 ?_
            refine bselF hb19 ?_
            refine qn16 _ _ ?_
            obtain rfl := Option.some.inj h14
            refine EOk.done ?_
            exact ⟨⟨_, rfl⟩, [], trivial, ⟨⟨rfl, trivial⟩, trivial, rfl, rfl⟩⟩
        · refine bselF hb18 ?_
          refine bselF hb18 ?_
          refine bselF hb18 ?_
          refine qn16 _ _ ?_
          obtain rfl := Option.some.inj h14
          refine EOk.done ?_
          exact ⟨⟨_, rfl⟩, [], trivial, ⟨⟨rfl, trivial⟩, trivial, rfl, rfl⟩⟩
      · refine bselF hb17 ?_
        refine bselF hb17 ?_
        refine bselF hb17 ?_
        refine bselF hb17 ?_
        refine qn16 _ _ ?_
        obtain rfl := Option.some.inj h14
        refine EOk.done ?_
        exact ⟨⟨_, rfl⟩, [], trivial, ⟨⟨rfl, trivial⟩, trivial, rfl, rfl⟩⟩
    · refine bselF hb16 ?_
      refine bselF hb16 ?_
      refine qn16 _ _ ?_
      obtain rfl := Option.some.inj h14
      refine EOk.done ?_
      exact ⟨⟨_, rfl⟩, [], trivial, ⟨⟨rfl, trivial⟩, trivial, rfl, rfl⟩⟩
  rintro ⟨v13, hv_⟩
  replace hv_ := hv_.symm
  subst hv_
  refine qn15 _ _ ?_
  refine got hn ?_
  obtain rfl := Option.some.inj h
  exact ⟨[], _, rfl, (by repeat (first | exact trivial | exact rfl | (refine And.intro ?_ ?_))), trivial, rfl, rfl, rfl, rfl, rfl⟩

/- qclaw10.InlineRoom -/
set_option maxRecDepth 100000 in
set_option maxHeartbeats 1000000 in
theorem qclaw10_InlineRoom_ok (N : Nat) (a0 : Wd) (a1 : Int) (a2 : Int) (a3 : (List Int)) (r : Bool) (h : qclaw10_InlineRoom N a0 a1 a2 a3 = some r) : Spec Try.prog 8 [] [.agg (eWd a0), .int a1, .int a2, .sl 1 (List.map eInt a3)] (.bool r) [] [] := by
  refine Spec.of tabOk Try.func8 rfl Try.ntmps8 (by kernel_rfl) rfl rfl rfl fun Γ hn => ?_
  unfold qclaw10_InlineRoom at h
  refine COk.seqQ fun Q1153 qn1153 qx1153 qr1153 => ?_
  refine gor hn ?_
  refine qn1153 _ _ ?_
  refine COk.seqQ fun Q1154 qn1154 qx1154 qr1154 => ?_
  refine COk.seqQ fun Q1155 qn1155 qx1155 qr1155 => ?_
  refine gor hn ?_
  obtain ⟨r1, hr2, h⟩ := bindM h
  show CallOk Try.prog _ _ _ _
  refine CallOk.as (qclaw10_alive_ok N  r1 hr2) (by repeat (first | exact trivial | exact rfl | (refine And.intro ?_ ?_))) trivial rfl ?_
  refine qn1155 _ _ ?_
  refine goc hn ?_
  refine bselM h (fun hb3 h => ?_) (fun hb3 h => ?_)
  · refine COk.seqQ fun Q1157 qn1157 qx1157 qr1157 => ?_
    refine gor hn ?_
    refine qn1157 _ _ ?_
    refine got hn ?_
    refine qr1154 _ _ ?_
    obtain rfl := Option.some.inj h
    exact ⟨[], _, rfl, (by repeat (first | exact trivial | exact rfl | (refine And.intro ?_ ?_))), trivial, rfl, rfl, rfl, rfl, rfl⟩
  · refine gok hn ?_
    refine qn1154 _ _ ?_
    refine COk.seqQ fun Q1158 qn1158 qx1158 qr1158 => ?_
    refine COk.seqQ fun Q1159 qn1159 qx1159 qr1159 => ?_
    refine gor hn ?_
    obtain ⟨r4, hr5, h⟩ := bindM h
    show CallOk Try.prog _ _ _ _
    refine CallOk.as (qcref1_Right_ok N a0 r4 hr5) (by repeat (first | exact trivial | exact rfl | (refine And.intro ?_ ?_))) trivial rfl ?_
    refine qn1159 _ _ ?_
    refine goc hn ?_
    refine bselM h (fun hb6 h => ?_) (fun hb6 h => ?_)
    · refine COk.seqQ fun Q1161 qn1161 qx1161 qr1161 => ?_
      refine gor hn ?_
      refine qn1161 _ _ ?_
      refine got hn ?_
      refine qr1158 _ _ ?_
      obtain rfl := Option.some.inj h
      exact ⟨[], _, rfl, (by repeat (first | exact trivial | exact rfl | (refine And.intro ?_ ?_))), trivial, rfl, rfl, rfl, rfl, rfl⟩
    · refine gok hn ?_
      refine qn1158 _ _ ?_
      refine COk.seqQ fun Q1162 qn1162 qx1162 qr1162 => ?_
      refine gor hn ?_
      obtain ⟨r7, hr8, h⟩ := bindM h
      show CallOk Try.prog _ _ _ _
      refine CallOk.as (inline_Method_ok N a0 a1 a2 a3 r7 hr8) (by repeat (first | exact trivial | exact rfl | (refine And.intro ?_ ?_))) trivial rfl ?_
      refine qn1162 _ _ ?_
      refine COk.seqQ fun Q1163 qn1163 qx1163 qr1163 => ?_
      refine COk.seqQ fun Q1164 qn1164 qx1164 qr1164 => ?_
      refine COk.sub (ts2 := [(1, .int a1), (2, .int a2), (3, .sl 1 (List.map eInt a3)), (4, .ptr 4 0), (9, .ptr 9 0), (10, .bool r7.2)]) (os2 := [(4, .box (eWd a0) 26), (9, .box (eFs r7.1) 53)]) [] ⟨⟨rfl, rfl, (by repeat (first | exact trivial | exact rfl | (refine And.intro ?_ ?_))), rfl, rfl, rfl, trivial⟩, ⟨rfl, rfl, trivial⟩, rfl, rfl⟩ (by rw [hn]; rfl) ?_
      refine gor hn ?_
      refine qn1164 _ _ ?_
      refine goc hn ?_
      refine bselM h (fun hb9 h => ?_) (fun hb9 h => ?_)
      · refine COk.seqQ fun Q1166 qn1166 qx1166 qr1166 => ?_
        refine gor hn ?_
        refine lenM (fun hl10 => ?_)
        refine qn1166 _ _ ?_
        refine got hn ?_
        refine qr1163 _ _ ?_
        obtain rfl := Option.some.inj h
        exact ⟨[], _, rfl, (by repeat (first | exact trivial | exact rfl | (refine And.intro ?_ ?_))), trivial, rfl, rfl, rfl, rfl, rfl⟩
      · refine gok hn ?_
        refine qn1163 _ _ ?_
        refine COk.seqQ fun Q1167 qn1167 qx1167 qr1167 => ?_
        refine COk.seqQ fun Q1168 qn1168 qx1168 qr1168 => ?_
        obtain ⟨o13, h12, h⟩ := bindM h
        refine COk.joinR (ι := { s : Bool // o13 = s }) (fun s => [(1, .int a1), (2, .int a2), (3, .sl 1 (List.map eInt a3)), (4, .ptr 4 0), (9, .ptr 9 0), (67, .bool s.1)]) (fun s => [(4, .box (eWd a0) 26), (9, .box (eFs r7.1) 53)]) (fun Q1169 qn1169 qx1169 qr1169 => ?_) (by intro s; rw [hn]; rfl) ?_
        · refine gor hn ?_
          refine lenM (fun hl14 => ?_)
          refine bselM h12 (fun hb15 h12 => ?_) (fun hb15 h12 => ?_)
          · refine bselT hb15 ?_
            refine bselT hb15 ?_
            refine bselT hb15 ?_
            refine qn1169 _ _ ?_
            obtain rfl := Option.some.inj h12
            refine EOk.done ?_
            exact ⟨⟨_, rfl⟩, [], trivial, ⟨⟨rfl, rfl, (by repeat (first | exact trivial | exact rfl | (refine And.intro ?_ ?_))), rfl, rfl, rfl, trivial⟩, ⟨rfl, rfl, trivial⟩, rfl, rfl⟩⟩
          · refine bselF hb15 ?_
            refine bselF hb15 ?_
            refine bselF hb15 ?_
            refine bselM h12 (fun hb16 h12 => ?_) (fun hb16 h12 => ?_)
            · refine bselT hb16 ?_
              refine bselT hb16 ?_
              refine qn1169 _ _ ?_
              obtain rfl := Option.some.inj h12
              refine EOk.done ?_
              exact ⟨⟨_, rfl⟩, [], trivial, ⟨⟨rfl, rfl, (by repeat (first | exact trivial | exact rfl | (refine And.intro ?_ ?_))), rfl, rfl, rfl, trivial⟩, ⟨rfl, rfl, trivial⟩, rfl, rfl⟩⟩
            · refine bselF hb16 ?_
              refine bselF hb16 ?_
              refine bselM h12 (fun hb17 h12 => ?_) (fun hb17 h12 => ?_)
              · refine bselT hb17 ?_
                refine bselT hb17 ?_
                refine bselT hb17 ?_
                refine bselT hb17 ?_
                refine bselT hb17 ?_
                refine qn1169 _ _ ?_
                obtain rfl := Option.some.inj h12
                refine EOk.done ?_
                exact ⟨⟨_, rfl⟩, [], trivial, ⟨⟨rfl, rfl, (by repeat (first | exact trivial | exact rfl | (refine And.intro ?_ ?_))), rfl, rfl, rfl, trivial⟩, ⟨rfl, rfl, trivial⟩, rfl, rfl⟩⟩
              · refine bselF hb17 ?_
                refine bselF hb17 ?_
                refine bselF hb17 ?_
                refine lenM (fun hl18 => ?_)
                refine bselF hb17 ?_
                refine bselF hb17 ?_
                refine bselM h12 (fun hb19 h12 => ?_) (fun hb19 h12 => ?_)
                · refine bselT hb19 ?_
                  refine bselT hb19 ?_
                  refine qn1169 _ _ ?_
                  obtain rfl := Option.some.inj h12
                  refine EOk.done ?_
                  exact ⟨⟨_, rfl⟩, [], trivial, ⟨⟨rfl, rfl, (by repeat (first | exact trivial | exact rfl | (refine And.intro ?_ ?_))), rfl, rfl, rfl, trivial⟩, ⟨rfl, rfl, trivial⟩, rfl, rfl⟩⟩
                · refine bselF hb19 ?_
                  refine bselF hb19 ?_
                  refine bselM h12 (fun hb20 h12 => ?_) (fun hb20 h12 => ?_)
                  · refine bselT hb20 ?_
                    refine bselT hb20 ?_
                    refine bselT hb20 ?_
                    refine bselT hb20 ?_
                    refine bselT hb20 ?_
                    refine bselT hb20 ?_
                    refine bselT hb20 ?_
                    refine bselT hb20 ?_
                    refine bselT hb20 ?_
                    refine qn1169 _ _ ?_
                    obtain rfl := Option.some.inj h12
                    refine EOk.done ?_
                    exact ⟨⟨_, rfl⟩, [], trivial, ⟨⟨rfl, rfl, (by repeat (first | exact trivial | exact rfl | (refine And.intro ?_ ?_))), rfl, rfl, rfl, trivial⟩, ⟨rfl, rfl, trivial⟩, rfl, rfl⟩⟩
                  · refine bselF hb20 ?_
                    refine bselF hb20 ?_
                    refine bselF hb20 ?_
                    refine bselF hb20 ?_
                    obtain ⟨x21, hx22, h12⟩ := bindM h12
                    refine idxM hx22 ?_
                    refine bselF hb20 ?_
                    refine bselF hb20 ?_
                    refine bselF hb20 ?_
                    refine lenM (fun hl23 => ?_)
                    refine bselF hb20 ?_
                    refine bselF hb20 ?_
                    refine qn1169 _ _ ?_
                    obtain rfl := Option.some.inj h12
                    refine EOk.done ?_
                    exact ⟨⟨_, rfl⟩, [], trivial, ⟨⟨rfl, rfl, (by repeat (first | exact trivial | exact rfl | (refine And.intro ?_ ?_))), rfl, rfl, rfl, trivial⟩, ⟨rfl, rfl, trivial⟩, rfl, rfl⟩⟩
        rintro ⟨v11, hv_⟩
        replace hv_ := hv_.symm
        subst hv_
        refine qn1168 _ _ ?_
        refine goc hn ?_
        refine bselM h (fun hb24 h => ?_) (fun hb24 h => ?_)
        · refine COk.seqQ fun Q1171 qn1171 qx1171 qr1171 => ?_
          refine gor hn ?_
          refine qn1171 _ _ ?_
          refine got hn ?_
          refine qr1167 _ _ ?_
          obtain rfl := Option.some.inj h
          exact ⟨[], _, rfl, (by repeat (first | exact trivial | exact rfl | (refine And.intro ?_ ?_))), trivial, rfl, rfl, rfl, rfl, rfl⟩
        · refine gok hn ?_
          refine qn1167 _ _ ?_
          refine COk.seqQ fun Q1172 qn1172 qx1172 qr1172 => ?_
          refine gor hn ?_
          refine qn1172 _ _ ?_
          refine COk.seqQ fun Q1173 qn1173 qx1173 qr1173 => ?_
          refine COk.seqQ fun Q1174 qn1174 qx1174 qr1174 => ?_
          refine gor hn ?_
          refine lenM (fun hl25 => ?_)
          refine qn1174 _ _ ?_
          obtain ⟨o30, h31, h⟩ := bindM h
          refine COk.joinR (ι := { s : Int // o30 = Ctl.next s }) (fun s => [(11, .int s.1)]) (fun s => []) (fun Q2018 qn2018 qx2018 qr2018 => ?_) (by intro s; rw [hn]; rfl) ?_
          · refine COk.blkQ fun Q2019 qn2019 qe2019 qx2019 qr2019 => ?_
            refine COk.loopQ (ι := { q : ((List Ins) × Nat × Int) // q.1 = r7.1.code.drop q.2.1 ∧ qclaw10_InlineRoom_l1 N a0 a1 a2 a3 r7 q.1 q.2.1 q.2.2 = some o30 }) (fun q => [(1, .int a1), (2, .int a2), (3, .sl 1 (List.map eInt a3)), (4, .ptr 4 0), (9, .ptr 9 0), (11, .int q.1.2.2), (69, .sl 5 (List.map eIns r7.1.code)), (70, .int (r7.1.code.length : Int)), (71, .int (q.1.2.1 : Int))]) (fun q => [(4, .box (eWd a0) 26), (9, .box (eFs r7.1) 53)]) (fun q => q.1.1.length) ⟨(r7.1.code, 0, (0 : Int)), rfl, h31⟩ [] ⟨⟨rfl, rfl, (by repeat (first | exact trivial | exact rfl | (refine And.intro ?_ ?_))), rfl, rfl, rfl, (by repeat (first | exact trivial | exact rfl | (refine And.intro ?_ ?_))), rfl, rfl, trivial⟩, ⟨rfl, rfl, trivial⟩, rfl, rfl⟩ (by intro q; rw [hn]; rfl) ?_
            rintro ⟨⟨rest_, k26, v27⟩, hd33, h31⟩ Q2020 qn2020 qx2020 qr2020
            replace hd33 : rest_ = r7.1.code.drop k26 := hd33
            rcases rest_ with _ | ⟨x35, rest32⟩
            · have hlt37 := restNil hd33
              replace h31 := (qclaw10_InlineRoom_l1.eq_1 _ _ _ _ _ _ _ _).symm.trans h31
              refine COk.seqQ fun Q2021 qn2021 qx2021 qr2021 => ?_
              refine gor hn ?_
              refine qn2021 _ _ ?_
              refine COk.seqQ fun Q2022 qn2022 qx2022 qr2022 => ?_
              refine goc hn ?_
              refine bselF hlt37 ?_
              refine goe hn ?_
              refine qx2022 _ _ _ ?_
              refine qx2020 _ _ _ ?_
              refine qe2019 _ _ ?_
              refine qn2018 _ _ ?_
              obtain rfl := Option.some.inj h31
              refine EOk.done ?_
              exact ⟨⟨_, rfl⟩, [], trivial, ⟨⟨rfl, trivial⟩, trivial, rfl, rfl⟩⟩
            · obtain ⟨hx36, hd2, hlt37⟩ := restCons hd33
              replace h31 := (qclaw10_InlineRoom_l1.eq_2 _ _ _ _ _ _ _ _ _ _).symm.trans h31
              refine COk.seqQ fun Q2023 qn2023 qx2023 qr2023 => ?_
              refine gor hn ?_
              refine qn2023 _ _ ?_
              refine COk.seqQ fun Q2024 qn2024 qx2024 qr2024 => ?_
              refine goc hn ?_
              refine bselT hlt37 ?_
              refine gok hn ?_
              refine qn2024 _ _ ?_
              refine COk.seqQ fun Q2025 qn2025 qx2025 qr2025 => ?_
              refine COk.blkQ fun Q2165 qn2165 qe2165 qx2165 qr2165 => ?_
              refine COk.seqQ fun Q2166 qn2166 qx2166 qr2166 => ?_
              refine gor hn ?_
              refine idxK hx36 ?_
              refine qn2166 _ _ ?_
              refine COk.seqQ fun Q2167 qn2167 qx2167 qr2167 => ?_
              refine gor hn ?_
              refine qn2167 _ _ ?_
              refine COk.blkQ fun Q2236 qn2236 qe2236 qx2236 qr2236 => ?_
              refine COk.seqQ fun Q2237 qn2237 qx2237 qr2237 => ?_
              refine COk.seqQ fun Q2238 qn2238 qx2238 qr2238 => ?_
              refine gor hn ?_
              refine qn2238 _ _ ?_
              obtain ⟨o40, h39, h31⟩ := bindM h31
              refine COk.joinR (ι := { s : Bool // o40 = s }) (fun s => [(1, .int a1), (2, .int a2), (3, .sl 1 (List.map eInt a3)), (4, .ptr 4 0), (9, .ptr 9 0), (11, .int v27), (13, .ptr 13 0), (69, .sl 5 (List.map eIns r7.1.code)), (70, .int (r7.1.code.length : Int)), (71, .int (k26 : Int)), (76, .int x35.op), (77, .bool s.1)]) (fun s => [(4, .box (eWd a0) 26), (9, .box (eFs r7.1) 53), (13, .box (eIns x35) 62)]) (fun Q2239 qn2239 qx2239 qr2239 => ?_) (by intro s; rw [hn]; rfl) ?_
              · refine goc hn ?_
                refine bselM h39 (fun hb41 h39 => ?_) (fun hb41 h39 => ?_)
                · refine gok hn ?_
                  refine qn2239 _ _ ?_
                  obtain rfl := Option.some.inj h39
                  refine EOk.done ?_
                  exact ⟨⟨_, rfl⟩, [], trivial, ⟨⟨rfl, rfl, (by repeat (first | exact trivial | exact rfl | (refine And.intro ?_ ?_))), rfl, rfl, rfl, rfl, (by repeat (first | exact trivial | exact rfl | (refine And.intro ?_ ?_))), rfl, rfl, rfl, rfl, trivial⟩, ⟨rfl, rfl, rfl, trivial⟩, rfl, rfl⟩⟩
                · refine COk.sub (ts2 := [(1, .int a1), (2, .int a2), (3, .sl 1 (List.map eInt a3)), (4, .ptr 4 0), (9, .ptr 9 0), (11, .int v27), (13, .ptr 13 0), (69, .sl 5 (List.map eIns r7.1.code)), (70, .int (r7.1.code.length : Int)), (71, .int (k26 : Int)), (76, .int x35.op)]) (os2 := [(4, .box (eWd a0) 26), (9, .box (eFs r7.1) 53), (13, .box (eIns x35) 62)]) [] ⟨⟨rfl, rfl, (by repeat (first | exact trivial | exact rfl | (refine And.intro ?_ ?_))), rfl, rfl, rfl, rfl, (by repeat (first | exact trivial | exact rfl | (refine And.intro ?_ ?_))), rfl, rfl, rfl, trivial⟩, ⟨rfl, rfl, rfl, trivial⟩, rfl, rfl⟩ (by rw [hn]; rfl) ?_
                  refine gor hn ?_
                  refine qn2239 _ _ ?_
                  obtain rfl := Option.some.inj h39
                  refine EOk.done ?_
                  exact ⟨⟨_, rfl⟩, [], trivial, ⟨⟨rfl, rfl, (by repeat (first | exact trivial | exact rfl | (refine And.intro ?_ ?_))), rfl, rfl, rfl, rfl, (by repeat (first | exact trivial | exact rfl | (refine And.intro ?_ ?_))), rfl, rfl, rfl, rfl, trivial⟩, ⟨rfl, rfl, rfl, trivial⟩, rfl, rfl⟩⟩
              rintro ⟨v38, hv_⟩
              replace hv_ := hv_.symm
              subst hv_
              refine qn2237 _ _ ?_
              obtain ⟨o44, h43, h31⟩ := bindM h31
              refine COk.joinR (ι := { s : Int // o44 = Ctl.next s }) (fun s => [(1, .int a1), (2, .int a2), (3, .sl 1 (List.map eInt a3)), (4, .ptr 4 0), (9, .ptr 9 0), (11, .int s.1), (69, .sl 5 (List.map eIns r7.1.code)), (70, .int (r7.1.code.length : Int)), (71, .int (k26 : Int))]) (fun s => [(4, .box (eWd a0) 26), (9, .box (eFs r7.1) 53)]) (fun Q2282 qn2282 qx2282 qr2282 => ?_) (by intro s; rw [hn]; rfl) ?_
              · refine goc hn ?_
                refine bselM h43 (fun hb45 h43 => ?_) (fun hb45 h43 => ?_)
                · refine COk.seqQ fun Q2283 qn2283 qx2283 qr2283 => ?_
                  obtain ⟨o48, h47, h43⟩ := bindM h43
                  refine COk.joinR (ι := { s : Bool // o48 = s }) (fun s => [(1, .int a1), (2, .int a2), (3, .sl 1 (List.map eInt a3)), (4, .ptr 4 0), (9, .ptr 9 0), (11, .int v27), (69, .sl 5 (List.map eIns r7.1.code)), (70, .int (r7.1.code.length : Int)), (71, .int (k26 : Int)), (90, .bool s.1)]) (fun s => [(4, .box (eWd a0) 26), (9, .box (eFs r7.1) 53)]) (fun Q2284 qn2284 qx2284 qr2284 => ?_) (by intro s; rw [hn]; rfl) ?_
                  · refine gor hn ?_
                    refine bselM h47 (fun hb49 h47 => ?_) (fun hb49 h47 => ?_)
                    · refine bselT hb49 ?_
                      refine bselT hb49 ?_
                      refine bselT hb49 ?_
                      refine bselT hb49 ?_
                      refine bselT hb49 ?_
                      refine bselT hb49 ?_
                      refine qn2284 _ _ ?_
                      obtain rfl := Option.some.inj h47
                      refine EOk.done ?_
                      exact ⟨⟨_, rfl⟩, [], trivial, ⟨⟨rfl, rfl, (by repeat (first | exact trivial | exact rfl | (refine And.intro ?_ ?_))), rfl, rfl, rfl, (by repeat (first | exact trivial | exact rfl | (refine And.intro ?_ ?_))), rfl, rfl, rfl, trivial⟩, ⟨rfl, rfl, trivial⟩, rfl, rfl⟩⟩
                    · refine bselF hb49 ?_
                      refine bselF hb49 ?_
                      refine bselF hb49 ?_
                      refine bselF hb49 ?_
                      refine lenM (fun hl50 => ?_)
                      refine bselF hb49 ?_
                      refine bselF hb49 ?_
                      refine qn2284 _ _ ?_
                      obtain rfl := Option.some.inj h47
                      refine EOk.done ?_
                      exact ⟨⟨_, rfl⟩, [], trivial, ⟨⟨rfl, rfl, (by repeat (first | exact trivial | exact rfl | (refine And.intro ?_ ?_))), rfl, rfl, rfl, (by repeat (first | exact trivial | exact rfl | (refine And.intro ?_ ?_))), rfl, rfl, rfl, trivial⟩, ⟨rfl, rfl, trivial⟩, rfl, rfl⟩⟩
                  rintro ⟨v46, hv_⟩
                  replace hv_ := hv_.symm
                  subst hv_
                  refine qn2283 _ _ ?_
                  refine goc hn ?_
                  refine bselM h43 (fun hb51 h43 => ?_) (fun hb51 h43 => ?_)
                  · refine COk.seqQ fun Q2286 qn2286 qx2286 qr2286 => ?_
                    refine gor hn ?_
                    refine qn2286 _ _ ?_
                    refine got hn ?_
                    refine qr2282 _ _ ?_
                    refine qr2236 _ _ ?_
                    refine qr2165 _ _ ?_
                    refine qr2025 _ _ ?_
                    refine qr2020 _ _ ?_
                    refine qr2019 _ _ ?_
                    refine qr2018 _ _ ?_
                    refine qr1173 _ _ ?_
                    obtain rfl := Option.some.inj h43
                    obtain rfl := Option.some.inj h31
                    obtain rfl := Option.some.inj h
                    exact ⟨[], _, rfl, (by repeat (first | exact trivial | exact rfl | (refine And.intro ?_ ?_))), trivial, rfl, rfl, rfl, rfl, rfl⟩
                  · refine gok hn ?_
                    refine qn2282 _ _ ?_
                    obtain rfl := Option.some.inj h43
                    refine EOk.done ?_
                    exact ⟨⟨_, rfl⟩, [], trivial, ⟨⟨rfl, rfl, (by repeat (first | exact trivial | exact rfl | (refine And.intro ?_ ?_))), rfl, rfl, rfl, (by repeat (first | exact trivial | exact rfl | (refine And.intro ?_ ?_))), rfl, rfl, trivial⟩, ⟨rfl, rfl, trivial⟩, rfl, rfl⟩⟩
                · refine COk.seqQ fun Q2287 qn2287 qx2287 qr2287 => ?_
                  refine gor hn ?_
                  refine qn2287 _ _ ?_
                  obtain ⟨o54, h53, h43⟩ := bindM h43
                  refine COk.joinR (ι := { s : Int // o54 = Ctl.next s }) (fun s => [(1, .int a1), (2, .int a2), (3, .sl 1 (List.map eInt a3)), (4, .ptr 4 0), (9, .ptr 9 0), (11, .int s.1), (69, .sl 5 (List.map eIns r7.1.code)), (70, .int (r7.1.code.length : Int)), (71, .int (k26 : Int))]) (fun s => [(4, .box (eWd a0) 26), (9, .box (eFs r7.1) 53)]) (fun Q2298 qn2298 qx2298 qr2298 => ?_) (by intro s; rw [hn]; rfl) ?_
                  · refine goc hn ?_
                    refine bselM h53 (fun hb55 h53 => ?_) (fun hb55 h53 => ?_)
                    · refine COk.seqQ fun Q2299 qn2299 qx2299 qr2299 => ?_
                      refine gor hn ?_
                      refine Or.inr ?_
                      refine qn2299 _ _ ?_
                      refine COk.seqQ fun Q2300 qn2300 qx2300 qr2300 => ?_
                      obtain ⟨o58, h57, h53⟩ := bindM h53
                      refine COk.joinR (ι := { s : Bool // o58 = s }) (fun s => [(1, .int a1), (2, .int a2), (3, .sl 1 (List.map eInt a3)), (4, .ptr 4 0), (9, .ptr 9 0), (11, .int (wr (v27 + (1 : Int)))), (69, .sl 5 (List.map eIns r7.1.code)), (70, .int (r7.1.code.length : Int)), (71, .int (k26 : Int)), (130, .bool s.1)]) (fun s => [(4, .box (eWd a0) 26), (9, .box (eFs r7.1) 53)]) (fun Q2301 qn2301 qx2301 qr2301 => ?_) (by intro s; rw [hn]; rfl) ?_
                      · refine COk.sub (ts2 := [(1, .int a1), (2, .int a2), (3, .sl 1 (List.map eInt a3)), (4, .ptr 4 0), (9, .ptr 9 0), (11, .int (wr (v27 + (1 : Int)))), (13, .ptr 13 0), (69, .sl 5 (List.map eIns r7.1.code)), (70, .int (r7.1.code.length : Int)), (71, .int (k26 : Int))]) (os2 := [(4, .box (eWd a0) 26), (9, .box (eFs r7.1) 53), (13, .box (eIns x35) 62)]) [] ⟨⟨rfl, rfl, (by repeat (first | exact trivial | exact rfl | (refine And.intro ?_ ?_))), rfl, rfl, rfl, rfl, (by repeat (first | exact trivial | exact rfl | (refine And.intro ?_ ?_))), rfl, rfl, trivial⟩, ⟨rfl, rfl, rfl, trivial⟩, rfl, rfl⟩ (by rw [hn]; rfl) ?_
                        refine god hn (by kernel_rfl) ?_
                        refine bselM h57 (fun hb59 h57 => ?_) (fun hb59 h57 => ?_)
                        · refine bselT hb59 ?_
                          refine bselT hb59 ?_
                          refine bselT hb59 ?_
                          refine bselT hb59 ?_
                          refine bselT hb59 ?_
                          refine bselT hb59 ?_
                          refine bselT hb59 ?_
                          refine bselT hb59 ?_
                          refine bselT hb59 ?_
                          refine bselT hb59 ?_
                          refine bselT hb59 ?_
                          refine bselT hb59 ?_
                          refine bselT hb59 ?_
                          refine bselT hb59 ?_
                          refine qn2301 _ _ ?_
                          obtain rfl := Option.some.inj h57
                          refine EOk.done ?_
                          exact ⟨⟨_, rfl⟩, [], trivial, ⟨⟨rfl, rfl, (by repeat (first | exact trivial | exact rfl | (refine And.intro ?_ ?_))), rfl, rfl, rfl, (by repeat (first | exact trivial | exact rfl | (refine And.intro ?_ ?_))), rfl, rfl, rfl, trivial⟩, ⟨rfl, rfl, trivial⟩, rfl, rfl⟩⟩
                        · refine bselF hb59 ?_
                          refine bselF hb59 ?_
                          refine bselF hb59 ?_
                          refine bselF hb59 ?_
                          refine bselF hb59 ?_
                          obtain ⟨x60, hx61, h57⟩ := bindM h57
                          refine idxM hx61 ?_
                          refine bselF hb59 ?_
                          refine bselF hb59 ?_
                          refine bselF hb59 ?_
                          refine bselF hb59 ?_
                          obtain ⟨x62, hx63, h57⟩ := bindM h57
                          refine idxM hx63 ?_
                          refine bselF hb59 ?_
                          refine bselF hb59 ?_
                          refine bselF hb59 ?_
                          refine lenM (fun hl64 => ?_)
                          refine bselF hb59 ?_
                          refine bselF hb59 ?_
                          refine bselM h57 (fun hb65 h57 => ?_) (fun hb65 h57 => ?_)
                          · refine bselT hb65 ?_
                            refine bselT hb65 ?_
                            refine bselT hb65 ?_
                            refine bselT hb65 ?_
                            refine bselT hb65 ?_
                            refine qn2301 _ _ ?_
                            obtain rfl := Option.some.inj h57
                            refine EOk.done ?_
                            exact ⟨⟨_, rfl⟩, [], trivial, ⟨⟨rfl, rfl, (by repeat (first | exact trivial | exact rfl | (refine And.intro ?_ ?_))), rfl, rfl, rfl, (by repeat (first | exact trivial | exact rfl | (refine And.intro ?_ ?_))), rfl, rfl, rfl, trivial⟩, ⟨rfl, rfl, trivial⟩, rfl, rfl⟩⟩
                          · refine bselF hb65 ?_
                            refine bselF hb65 ?_
                            refine bselF hb65 ?_
                            refine lenM (fun hl66 => ?_)
                            refine bselF hb65 ?_
                            refine bselF hb65 ?_
                            refine bselM h57 (fun hb67 h57 => ?_) (fun hb67 h57 => ?_)
                            · refine bselT hb67 ?_
                              refine bselT hb67 ?_
                              refine bselT hb67 ?_
                              refine bselT hb67 ?_
                              refine bselT hb67 ?_
                              refine bselT hb67 ?_
                              refine bselT hb67 ?_
                              refine bselT hb67 ?_
                              refine qn2301 _ _ ?_
                              obtain rfl := Option.some.inj h57
                              refine EOk.done ?_
                              exact ⟨⟨_, rfl⟩, [], trivial, ⟨⟨rfl, rfl, (by repeat (first | exact trivial | exact rfl | (refine And.intro ?_ ?_))), rfl, rfl, rfl, (by repeat (first | exact trivial | exact rfl | (refine And.intro ?_ ?_))), rfl, rfl, rfl, trivial⟩, ⟨rfl, rfl, trivial⟩, rfl, rfl⟩⟩
                            · refine bselF hb67 ?_
                              refine bselF hb67 ?_
                              refine bselF hb67 ?_
                              obtain ⟨x68, hx69, h57⟩ := bindM h57
                              refine idxM hx69 ?_
                              refine bselF hb67 ?_
                              refine bselF hb67 ?_
                              refine bselF hb67 ?_
                              refine bselF hb67 ?_
                              refine bselF hb67 ?_
                              refine qn2301 _ _ ?_
                              obtain rfl := Option.some.inj h57
                              refine EOk.done ?_
                              exact ⟨⟨_, rfl⟩, [], trivial, ⟨⟨rfl, rfl, (by repeat (first | exact trivial | exact rfl | (refine And.intro ?_ ?_))), rfl, rfl, rfl, (by repeat (first | exact trivial | exact rfl | (refine And.intro ?_ ?_))), rfl, rfl, rfl, trivial⟩, ⟨rfl, rfl, trivial⟩, rfl, rfl⟩⟩
                      rintro ⟨v56, hv_⟩
                      replace hv_ := hv_.symm
                      subst hv_
                      refine qn2300 _ _ ?_
                      refine goc hn ?_
                      refine bselM h53 (fun hb70 h53 => ?_) (fun hb70 h53 => ?_)
                      · refine COk.seqQ fun Q2303 qn2303 qx2303 qr2303 => ?_
                        refine gor hn ?_
                        refine qn2303 _ _ ?_
                        refine got hn ?_
                        refine qr2298 _ _ ?_
                        refine qr2282 _ _ ?_
                        refine qr2236 _ _ ?_
                        refine qr2165 _ _ ?_
                        refine qr2025 _ _ ?_
                        refine qr2020 _ _ ?_
                        refine qr2019 _ _ ?_
                        refine qr2018 _ _ ?_
                        refine qr1173 _ _ ?_
                        obtain rfl := Option.some.inj h53
                        obtain rfl := Option.some.inj h43
                        obtain rfl := Option.some.inj h31
                        obtain rfl := Option.some.inj h
                        exact ⟨[], _, rfl, (by repeat (first | exact trivial | exact rfl | (refine And.intro ?_ ?_))), trivial, rfl, rfl, rfl, rfl, rfl⟩
                      · refine gok hn ?_
                        refine qn2298 _ _ ?_
                        obtain rfl := Option.some.inj h53
                        refine EOk.done ?_
                        exact ⟨⟨_, rfl⟩, [], trivial, ⟨⟨rfl, rfl, (by repeat (first | exact trivial | exact rfl | (refine And.intro ?_ ?_))), rfl, rfl, rfl, (by repeat (first | exact trivial | exact rfl | (refine And.intro ?_ ?_))), rfl, rfl, trivial⟩, ⟨rfl, rfl, trivial⟩, rfl, rfl⟩⟩
                    · refine gok hn ?_
                      refine qn2298 _ _ ?_
                      obtain rfl := Option.some.inj h53
                      refine EOk.done ?_
                      exact ⟨⟨_, rfl⟩, [], trivial, ⟨⟨rfl, rfl, (by repeat (first | exact trivial | exact rfl | (refine And.intro ?_ ?_))), rfl, rfl, rfl, (by repeat (first | exact trivial | exact rfl | (refine And.intro ?_ ?_))), rfl, rfl, trivial⟩, ⟨rfl, rfl, trivial⟩, rfl, rfl⟩⟩
                  rintro ⟨v52, rfl⟩
                  refine qn2282 _ _ ?_
                  obtain rfl := Option.some.inj h43
                  refine EOk.done ?_
                  exact ⟨⟨_, rfl⟩, [], trivial, ⟨⟨rfl, rfl, (by repeat (first | exact trivial | exact rfl | (refine And.intro ?_ ?_))), rfl, rfl, rfl, (by repeat (first | exact trivial | exact rfl | (refine And.intro ?_ ?_))), rfl, rfl, trivial⟩, ⟨rfl, rfl, trivial⟩, rfl, rfl⟩⟩
              rintro ⟨v42, rfl⟩
              refine qn2236 _ _ ?_
              refine qn2165 _ _ ?_
              refine qn2025 _ _ ?_
              refine gor hn ?_
              refine Or.inl (And.intro (inrK hx36 hl25) ?_)
              refine qn2020 _ _ ?_
              refine EOk.done ?_
              exact ⟨⟨(rest32, k26 + 1, v42), hd2, h31⟩, [], by show rest32.length < rest32.length + 1; omega, ⟨⟨rfl, rfl, (by repeat (first | exact trivial | exact rfl | (refine And.intro ?_ ?_))), rfl, rfl, rfl, (by repeat (first | exact trivial | exact rfl | (refine And.intro ?_ ?_))), rfl, rfl, trivial⟩, ⟨rfl, rfl, trivial⟩, rfl, rfl⟩⟩
          rintro ⟨v29, rfl⟩
          refine qn1173 _ _ ?_
          refine COk.seqQ fun Q2304 qn2304 qx2304 qr2304 => ?_
          refine gor hn ?_
          refine qn2304 _ _ ?_
          refine got hn ?_
          obtain rfl := Option.some.inj h
          exact ⟨[], _, rfl, (by repeat (first | exact trivial | exact rfl | (refine And.intro ?_ ?_))), trivial, rfl, rfl, rfl, rfl, rfl⟩
end Go.Proofs.Ytoceeiamcfdnlaa
