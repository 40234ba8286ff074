/- Walks after the mirrors. Printed by mir.py. -/
import Derived.Test.YtioalgofaiideaaWk3
namespace Go.Proofs.Ytioalgofaiideaa
open Go.RowKit
set_option linter.unusedVariables false
/- qcref1.Make -/
set_option maxRecDepth 100000 in
set_option maxHeartbeats 1000000 in
theorem qcref1_Make_ok (N : Nat) (a0 : Wd) (a1 : ByteArray) (a2 : Int) (a3 : Int) (r : (Wd × Int × Int)) (h : qcref1_Make N a0 a1 a2 a3 = some r) : Spec Try.prog 69 [] [.agg (eWd a0), .str a1, .int a2, .int a3] (.tup [.agg (eWd r.1), .int r.2.1, .int r.2.2]) [] [] := by
  refine Spec.of tabOk Try.func69 rfl Try.ntmps69 (by kernel_rfl) rfl rfl rfl fun Γ hn => ?_
  unfold qcref1_Make at h
  refine COk.seqQ fun Q69 qn69 qx69 qr69 => ?_
  refine gor hn ?_
  refine qn69 _ _ ?_
  refine COk.seqQ fun Q70 qn70 qx70 qr70 => ?_
  refine COk.seqQ fun Q71 qn71 qx71 qr71 => ?_
  refine gor hn ?_
  obtain ⟨r1, hr2, h⟩ := bindM h
  show CallOk Try.prog _ _ _ _
  refine CallOk.as (qcref1_Name_ok N a1 r1 hr2) (by repeat (first | exact trivial | exact rfl | (refine And.intro ?_ ?_))) trivial rfl ?_
  refine qn71 _ _ ?_
  refine goc hn ?_
  refine bselM h (fun hb3 h => ?_) (fun hb3 h => ?_)
  · refine COk.seqQ fun Q73 qn73 qx73 qr73 => ?_
    refine gor hn ?_
    refine qn73 _ _ ?_
    refine got hn ?_
    refine qr70 _ _ ?_
    obtain rfl := Option.some.inj h
    exact ⟨[], _, rfl, (by repeat (first | exact trivial | exact rfl | (refine And.intro ?_ ?_))), trivial, rfl, rfl, rfl, rfl, rfl⟩
  · refine gok hn ?_
    refine qn70 _ _ ?_
    refine COk.seqQ fun Q74 qn74 qx74 qr74 => ?_
    refine COk.seqQ fun Q75 qn75 qx75 qr75 => ?_
    refine gor hn ?_
    refine lenM (fun hl4 => ?_)
    refine qn75 _ _ ?_
    obtain ⟨o6, h7, h⟩ := bindM h
    refine COk.joinR (ι := { s : Unit // o6 = Ctl.next s }) (fun s => [(1, .str a1), (2, .int a2), (3, .int a3), (4, .ptr 4 0), (8, .ptr 8 0)]) (fun s => [(4, .box (eWd a0) 55), (8, .box [.nilsl, .nilsl, .int (0 : Int)] 55)]) (fun Q102 qn102 qx102 qr102 => ?_) (by intro s; rw [hn]; rfl) ?_
    · refine COk.blkQ fun Q103 qn103 qe103 qx103 qr103 => ?_
      refine COk.loopQ (ι := { q : ((List Cl) × Nat) // q.1 = a0.classes.drop q.2 ∧ qcref1_Make_l1 N a1 q.1 q.2 = some o6 }) (fun q => [(1, .str a1), (2, .int a2), (3, .int a3), (4, .ptr 4 0), (8, .ptr 8 0), (19, .sl 4 (List.map eCl a0.classes)), (20, .int (a0.classes.length : Int)), (21, .int (q.1.2 : Int))]) (fun q => [(4, .box (eWd a0) 55), (8, .box [.nilsl, .nilsl, .int (0 : Int)] 55)]) (fun q => q.1.1.length) ⟨(a0.classes, 0), rfl, h7⟩ [] ⟨⟨rfl, rfl, rfl, rfl, rfl, (by repeat (first | exact trivial | exact rfl | (refine And.intro ?_ ?_))), rfl, rfl, trivial⟩, ⟨rfl, rfl, trivial⟩, rfl, rfl⟩ (by intro q; rw [hn]; rfl) ?_
      rintro ⟨⟨rest_, k5⟩, hd9, h7⟩ Q104 qn104 qx104 qr104
      replace hd9 : rest_ = a0.classes.drop k5 := hd9
      rcases rest_ with _ | ⟨x11, rest8⟩
      · have hlt13 := restNil hd9
        replace h7 := (qcref1_Make_l1.eq_1 _ _ _).symm.trans h7
        refine COk.seqQ fun Q105 qn105 qx105 qr105 => ?_
        refine gor hn ?_
        refine qn105 _ _ ?_
        refine COk.seqQ fun Q106 qn106 qx106 qr106 => ?_
        refine goc hn ?_
        refine bselF hlt13 ?_
        refine goe hn ?_
        refine qx106 _ _ _ ?_
        refine qx104 _ _ _ ?_
        refine qe103 _ _ ?_
        refine qn102 _ _ ?_
        obtain rfl := Option.some.inj h7
        refine EOk.done ?_
        exact ⟨⟨_, rfl⟩, [], trivial, ⟨⟨rfl, rfl, rfl, rfl, rfl, trivial⟩, ⟨rfl, rfl, trivial⟩, rfl, rfl⟩⟩
      · obtain ⟨hx12, hd2, hlt13⟩ := restCons hd9
        replace h7 := (qcref1_Make_l1.eq_2 _ _ _ _ _).symm.trans h7
        refine COk.seqQ fun Q107 qn107 qx107 qr107 => ?_
        refine gor hn ?_
        refine qn107 _ _ ?_
        refine COk.seqQ fun Q108 qn108 qx108 qr108 => ?_
        refine goc hn ?_
        refine bselT hlt13 ?_
        refine gok hn ?_
        refine qn108 _ _ ?_
        refine COk.seqQ fun Q109 qn109 qx109 qr109 => ?_
        refine COk.blkQ fun Q115 qn115 qe115 qx115 qr115 => ?_
        refine COk.seqQ fun Q116 qn116 qx116 qr116 => ?_
        refine gor hn ?_
        refine idxK hx12 ?_
        refine qn116 _ _ ?_
        refine COk.seqQ fun Q117 qn117 qx117 qr117 => ?_
        refine gor hn ?_
        refine qn117 _ _ ?_
        refine goc hn ?_
        refine bselM h7 (fun hb14 h7 => ?_) (fun hb14 h7 => ?_)
        · refine COk.seqQ fun Q119 qn119 qx119 qr119 => ?_
          refine gor hn ?_
          refine qn119 _ _ ?_
          refine got hn ?_
          refine qr115 _ _ ?_
          refine qr109 _ _ ?_
          refine qr104 _ _ ?_
          refine qr103 _ _ ?_
          refine qr102 _ _ ?_
          refine qr74 _ _ ?_
          obtain rfl := Option.some.inj h7
          obtain rfl := Option.some.inj h
          exact ⟨[], _, rfl, (by repeat (first | exact trivial | exact rfl | (refine And.intro ?_ ?_))), trivial, rfl, rfl, rfl, rfl, rfl⟩
        · refine gok hn ?_
          refine qn115 _ _ ?_
          refine qn109 _ _ ?_
          refine gor hn ?_
          refine Or.inl (And.intro (inrK hx12 hl4) ?_)
          refine qn104 _ _ ?_
          refine EOk.done ?_
          exact ⟨⟨(rest8, k5 + 1), hd2, h7⟩, [], by show rest8.length < rest8.length + 1; omega, ⟨⟨rfl, rfl, rfl, rfl, rfl, (by repeat (first | exact trivial | exact rfl | (refine And.intro ?_ ?_))), rfl, rfl, trivial⟩, ⟨rfl, rfl, trivial⟩, rfl, rfl⟩⟩
    rintro ⟨⟨⟩, rfl⟩
    refine qn74 _ _ ?_
    refine COk.seqQ fun Q120 qn120 qx120 qr120 => ?_
    refine COk.seqQ fun Q121 qn121 qx121 qr121 => ?_
    obtain ⟨o17, h16, h⟩ := bindM h
    refine COk.joinR (ι := { s : Bool // o17 = s }) (fun s => [(1, .str a1), (2, .int a2), (3, .int a3), (4, .ptr 4 0), (8, .ptr 8 0), (39, .bool s.1)]) (fun s => [(4, .box (eWd a0) 55), (8, .box [.nilsl, .nilsl, .int (0 : Int)] 55)]) (fun Q122 qn122 qx122 qr122 => ?_) (by intro s; rw [hn]; rfl) ?_
    · refine gor hn ?_
      refine bselM h16 (fun hb18 h16 => ?_) (fun hb18 h16 => ?_)
      · refine bselT hb18 ?_
        refine bselT hb18 ?_
        refine bselT hb18 ?_
        refine bselT hb18 ?_
        refine bselT hb18 ?_
        refine qn122 _ _ ?_
        obtain rfl := Option.some.inj h16
        refine EOk.done ?_
        exact ⟨⟨_, rfl⟩, [], trivial, ⟨⟨rfl, rfl, rfl, rfl, rfl, rfl, trivial⟩, ⟨rfl, rfl, trivial⟩, rfl, rfl⟩⟩
      · refine bselF hb18 ?_
        refine bselF hb18 ?_
        refine bselF hb18 ?_
        refine lenM (fun hl19 => ?_)
        refine bselF hb18 ?_
        refine bselF hb18 ?_
        refine qn122 _ _ ?_
        obtain rfl := Option.some.inj h16
        refine EOk.done ?_
        exact ⟨⟨_, rfl⟩, [], trivial, ⟨⟨rfl, rfl, rfl, rfl, rfl, rfl, trivial⟩, ⟨rfl, rfl, trivial⟩, rfl, rfl⟩⟩
    rintro ⟨v15, hv_⟩
    replace hv_ := hv_.symm
    subst hv_
    refine qn121 _ _ ?_
    refine goc hn ?_
    refine bselM h (fun hb20 h => ?_) (fun hb20 h => ?_)
    · refine COk.seqQ fun Q124 qn124 qx124 qr124 => ?_
      refine gor hn ?_
      refine qn124 _ _ ?_
      refine got hn ?_
      refine qr120 _ _ ?_
      obtain rfl := Option.some.inj h
      exact ⟨[], _, rfl, (by repeat (first | exact trivial | exact rfl | (refine And.intro ?_ ?_))), trivial, rfl, rfl, rfl, rfl, rfl⟩
    · refine gok hn ?_
      refine qn120 _ _ ?_
      refine COk.seqQ fun Q125 qn125 qx125 qr125 => ?_
      refine COk.seqQ fun Q126 qn126 qx126 qr126 => ?_
      obtain ⟨o23, h22, h⟩ := bindM h
      refine COk.joinR (ι := { s : Bool // o23 = s }) (fun s => [(1, .str a1), (2, .int a2), (3, .int a3), (4, .ptr 4 0), (8, .ptr 8 0), (62, .bool s.1)]) (fun s => [(4, .box (eWd a0) 55), (8, .box [.nilsl, .nilsl, .int (0 : Int)] 55)]) (fun Q127 qn127 qx127 qr127 => ?_) (by intro s; rw [hn]; rfl) ?_
      · refine gor hn ?_
        refine bselM h22 (fun hb24 h22 => ?_) (fun hb24 h22 => ?_)
        · refine bselT hb24 ?_
          refine bselT hb24 ?_
          refine qn127 _ _ ?_
          obtain rfl := Option.some.inj h22
          refine EOk.done ?_
          exact ⟨⟨_, rfl⟩, [], trivial, ⟨⟨rfl, rfl, rfl, rfl, rfl, rfl, trivial⟩, ⟨rfl, rfl, trivial⟩, rfl, rfl⟩⟩
        · refine bselF hb24 ?_
          refine bselF hb24 ?_
          refine bselM h22 (fun hb25 h22 => ?_) (fun hb25 h22 => ?_)
          · refine bselT hb25 ?_
            refine bselT hb25 ?_
            refine bselT hb25 ?_
            refine bselT hb25 ?_
            refine bselT hb25 ?_
            refine bselT hb25 ?_
            refine qn127 _ _ ?_
            obtain rfl := Option.some.inj h22
            refine EOk.done ?_
            exact ⟨⟨_, rfl⟩, [], trivial, ⟨⟨rfl, rfl, rfl, rfl, rfl, rfl, trivial⟩, ⟨rfl, rfl, trivial⟩, rfl, rfl⟩⟩
          · refine bselF hb25 ?_
            refine bselF hb25 ?_
            refine bselF hb25 ?_
            obtain ⟨r26, hr27, h22⟩ := bindM h22
            show CallOk Try.prog _ _ _ _
            refine CallOk.as (qcref1_Slots_ok N a0 a2 r26 hr27) (by repeat (first | exact trivial | exact rfl | (refine And.intro ?_ ?_))) trivial rfl ?_
            refine bselF hb25 ?_
            refine Or.inr ?_
            refine bselF hb25 ?_
            refine bselF hb25 ?_
            refine bselM h22 (fun hb28 h22 => ?_) (fun hb28 h22 => ?_)
            · refine bselT hb28 ?_
              refine bselT hb28 ?_
              refine bselT hb28 ?_
              refine bselT hb28 ?_
              refine qn127 _ _ ?_
              obtain rfl := Option.some.inj h22
              refine EOk.done ?_
              exact ⟨⟨_, rfl⟩, [], trivial, ⟨⟨rfl, rfl, rfl, rfl, rfl, rfl, trivial⟩, ⟨rfl, rfl, trivial⟩, rfl, rfl⟩⟩
            · refine bselF hb28 ?_
              refine bselF hb28 ?_
              refine bselM h22 (fun hb29 h22 => ?_) (fun hb29 h22 => ?_)
              · refine bselT hb29 ?_
                refine bselF hb28 ?_
                refine bselT hb29 ?_
                refine bselF hb28 ?_
                refine qn127 _ _ ?_
                obtain rfl := Option.some.inj h22
                refine EOk.done ?_
                exact ⟨⟨_, rfl⟩, [], trivial, ⟨⟨rfl, rfl, rfl, rfl, rfl, rfl, trivial⟩, ⟨rfl, rfl, trivial⟩, rfl, rfl⟩⟩
              · refine bselF hb29 ?_
                refine bselF hb28 ?_
                refine bselF hb29 ?_
                refine bselF hb28 ?_
                refine qn127 _ _ ?_
                obtain rfl := Option.some.inj h22
                refine EOk.done ?_
                exact ⟨⟨_, rfl⟩, [], trivial, ⟨⟨rfl, rfl, rfl, rfl, rfl, rfl, trivial⟩, ⟨rfl, rfl, trivial⟩, rfl, rfl⟩⟩
      rintro ⟨v21, hv_⟩
      replace hv_ := hv_.symm
      subst hv_
      refine qn126 _ _ ?_
      refine goc hn ?_
      refine bselM h (fun hb30 h => ?_) (fun hb30 h => ?_)
      · refine COk.seqQ fun Q129 qn129 qx129 qr129 => ?_
        refine gor hn ?_
        refine qn129 _ _ ?_
        refine got hn ?_
        refine qr125 _ _ ?_
        obtain rfl := Option.some.inj h
        exact ⟨[], _, rfl, (by repeat (first | exact trivial | exact rfl | (refine And.intro ?_ ?_))), trivial, rfl, rfl, rfl, rfl, rfl⟩
      · refine gok hn ?_
        refine qn125 _ _ ?_
        refine COk.seqQ fun Q130 qn130 qx130 qr130 => ?_
        refine COk.seqQ fun Q131 qn131 qx131 qr131 => ?_
        refine gor hn ?_
        refine lenM (fun hl31 => ?_)
        refine qn131 _ _ ?_
        refine goc hn ?_
        refine bselM h (fun hb32 h => ?_) (fun hb32 h => ?_)
        · refine COk.seqQ fun Q133 qn133 qx133 qr133 => ?_
          refine gor hn ?_
          refine qn133 _ _ ?_
          refine got hn ?_
          refine qr130 _ _ ?_
          obtain rfl := Option.some.inj h
          exact ⟨[], _, rfl, (by repeat (first | exact trivial | exact rfl | (refine And.intro ?_ ?_))), trivial, rfl, rfl, rfl, rfl, rfl⟩
        · refine gok hn ?_
          refine qn130 _ _ ?_
          refine COk.seqQ fun Q134 qn134 qx134 qr134 => ?_
          refine gor hn ?_
          refine lenM (fun hl33 => ?_)
          refine qn134 _ _ ?_
          refine COk.seqQ fun Q135 qn135 qx135 qr135 => ?_
          refine gor hn ?_
          refine Exists.intro (List.map eCl ([] : List Cl)) (And.intro (by repeat (first | exact trivial | exact rfl | (refine And.intro ?_ ?_))) ?_)
          obtain ⟨hg34, h⟩ := guardM h
          refine appM (l2 := a0.classes) hg34 (leLs_refl _) ?_
          refine Exists.intro (List.map eCl [(⟨a1, a2, a3, []⟩ : Cl)]) (And.intro (by repeat (first | exact trivial | exact rfl | (refine And.intro ?_ ?_))) ?_)
          obtain ⟨hg35, h⟩ := guardM h
          refine appM (l2 := [(⟨a1, a2, a3, []⟩ : Cl)]) hg35 (leLs_refl _) ?_
          refine qn135 _ _ ?_
          refine COk.seqQ fun Q136 qn136 qx136 qr136 => ?_
          refine COk.sub (ts2 := [(4, .ptr 4 0), (8, .ptr 8 0), (13, .int (a0.classes.length : Int))]) (os2 := [(4, .box [.own 81, .sl 2 (List.map eOb a0.heap), .int a0.epoch] 55), (8, .box [.nilsl, .nilsl, .int (0 : Int)] 55), (81, .row 4 (List.map eCl ((([] : List Cl) ++ a0.classes) ++ [(⟨a1, a2, a3, []⟩ : Cl)])) 71)]) [] ⟨⟨rfl, rfl, rfl, trivial⟩, ⟨rfl, rfl, rfl, trivial⟩, rfl, rfl⟩ (by rw [hn]; rfl) ?_
          refine gor hn ?_
          refine qn136 _ _ ?_
          refine COk.fzAll 81 rfl ?_
          refine got hn ?_
          obtain rfl := Option.some.inj h
          exact ⟨[], _, rfl, (by repeat (first | exact trivial | exact rfl | (refine And.intro ?_ ?_))), trivial, rfl, rfl, rfl, rfl, rfl⟩

/- qcref1.Install -/
set_option maxRecDepth 100000 in
set_option maxHeartbeats 1000000 in
theorem qcref1_Install_ok (N : Nat) (a0 : Wd) (a1 : Int) (a2 : Me) (r : (Wd × Int)) (h : qcref1_Install N a0 a1 a2 = some r) : Spec Try.prog 70 [] [.agg (eWd a0), .int a1, .agg (eMe a2)] (.tup [.agg (eWd r.1), .int r.2]) [] [] := by
  refine Spec.of tabOk Try.func70 rfl Try.ntmps70 (by kernel_rfl) rfl rfl rfl fun Γ hn => ?_
  unfold qcref1_Install at h
  refine COk.seqQ fun Q283 qn283 qx283 qr283 => ?_
  refine gor hn ?_
  refine qn283 _ _ ?_
  refine COk.seqQ fun Q284 qn284 qx284 qr284 => ?_
  refine COk.seqQ fun Q285 qn285 qx285 qr285 => ?_
  obtain ⟨o3, h2, h⟩ := bindM h
  refine COk.joinR (ι := { s : Bool // o3 = s }) (fun s => [(1, .int a1), (3, .ptr 3 0), (5, .ptr 5 0), (6, .ptr 6 0), (21, .bool s.1)]) (fun s => [(3, .box (eWd a0) 55), (5, .box (eMe a2) 74), (6, .box [.nilsl, .nilsl, .int (0 : Int)] 55)]) (fun Q286 qn286 qx286 qr286 => ?_) (by intro s; rw [hn]; rfl) ?_
  · refine gor hn ?_
    refine bselM h2 (fun hb4 h2 => ?_) (fun hb4 h2 => ?_)
    · refine bselT hb4 ?_
      refine bselT hb4 ?_
      refine bselT hb4 ?_
      refine bselT hb4 ?_
      refine bselT hb4 ?_
      refine qn286 _ _ ?_
      obtain rfl := Option.some.inj h2
      refine EOk.done ?_
      exact ⟨⟨_, rfl⟩, [], trivial, ⟨⟨rfl, rfl, rfl, rfl, rfl, trivial⟩, ⟨rfl, rfl, rfl, trivial⟩, rfl, rfl⟩⟩
    · refine bselF hb4 ?_
      refine bselF hb4 ?_
      refine bselF hb4 ?_
      refine lenM (fun hl5 => ?_)
      refine bselF hb4 ?_
      refine bselF hb4 ?_
      refine qn286 _ _ ?_
      obtain rfl := Option.some.inj h2
      refine EOk.done ?_
      exact ⟨⟨_, rfl⟩, [], trivial, ⟨⟨rfl, rfl, rfl, rfl, rfl, trivial⟩, ⟨rfl, rfl, rfl, trivial⟩, rfl, rfl⟩⟩
  rintro ⟨v1, hv_⟩
  replace hv_ := hv_.symm
  subst hv_
  refine qn285 _ _ ?_
  refine goc hn ?_
  refine bselM h (fun hb6 h => ?_) (fun hb6 h => ?_)
  · refine COk.seqQ fun Q288 qn288 qx288 qr288 => ?_
    refine gor hn ?_
    refine qn288 _ _ ?_
    refine got hn ?_
    refine qr284 _ _ ?_
    obtain rfl := Option.some.inj h
    exact ⟨[], _, rfl, (by repeat (first | exact trivial | exact rfl | (refine And.intro ?_ ?_))), trivial, rfl, rfl, rfl, rfl, rfl⟩
  · refine gok hn ?_
    refine qn284 _ _ ?_
    refine COk.seqQ fun Q289 qn289 qx289 qr289 => ?_
    refine gor hn ?_
    refine qn289 _ _ ?_
    refine COk.seqQ fun Q290 qn290 qx290 qr290 => ?_
    refine gor hn ?_
    refine qn290 _ _ ?_
    refine COk.seqQ fun Q291 qn291 qx291 qr291 => ?_
    refine COk.seqQ fun Q292 qn292 qx292 qr292 => ?_
    refine gor hn ?_
    obtain ⟨x7, hx8, h⟩ := bindM h
    refine idxM hx8 ?_
    refine lenM (fun hl9 => ?_)
    refine qn292 _ _ ?_
    refine COk.nilrow 8 208 5 74 rfl rfl rfl ?_
    obtain ⟨o20, h21, h⟩ := bindM h
    refine COk.joinR (ι := { s : ((List Me) × Bool × Bool) // o20 = s }) (fun s => [(1, .int a1), (3, .ptr 3 0), (5, .ptr 5 0), (6, .ptr 6 0), (8, .own 208), (9, .bool s.1.2.1), (10, .bool s.1.2.2)]) (fun s => [(3, .box (eWd a0) 55), (5, .box (eMe a2) 74), (6, .box [.nilsl, .nilsl, .int (0 : Int)] 55), (208, .row 5 (List.map eMe s.1.1) 74)]) (fun Q499 qn499 qx499 qr499 => ?_) (by intro s; rw [hn]; rfl) ?_
    · refine COk.blkQ fun Q500 qn500 qe500 qx500 qr500 => ?_
      refine COk.loopQ (ι := { q : ((List Me) × Nat × (List Me) × Bool × Bool) // q.1 = x7.methods.drop q.2.1 ∧ qcref1_Install_l1 N a2 q.1 q.2.1 q.2.2.1 q.2.2.2.1 q.2.2.2.2 = some o20 }) (fun q => [(1, .int a1), (3, .ptr 3 0), (5, .ptr 5 0), (6, .ptr 6 0), (8, .own 208), (9, .bool q.1.2.2.2.1), (10, .bool q.1.2.2.2.2), (28, .sl 5 (List.map eMe x7.methods)), (29, .int (x7.methods.length : Int)), (30, .int (q.1.2.1 : Int))]) (fun q => [(3, .box (eWd a0) 55), (5, .box (eMe a2) 74), (6, .box [.nilsl, .nilsl, .int (0 : Int)] 55), (208, .row 5 (List.map eMe q.1.2.2.1) 74)]) (fun q => q.1.1.length) ⟨(x7.methods, 0, ([] : List Me), false, false), rfl, h21⟩ [] ⟨⟨rfl, rfl, rfl, rfl, rfl, rfl, rfl, (by repeat (first | exact trivial | exact rfl | (refine And.intro ?_ ?_))), rfl, rfl, trivial⟩, ⟨rfl, rfl, rfl, rfl, trivial⟩, rfl, rfl⟩ (by intro q; rw [hn]; rfl) ?_
      rintro ⟨⟨rest_, k10, v11, v12, v13⟩, hd23, h21⟩ Q501 qn501 qx501 qr501
      replace hd23 : rest_ = x7.methods.drop k10 := hd23
      rcases rest_ with _ | ⟨x25, rest22⟩
      · have hlt27 := restNil hd23
        replace h21 := (qcref1_Install_l1.eq_1 _ _ _ _ _ _).symm.trans h21
        refine COk.seqQ fun Q502 qn502 qx502 qr502 => ?_
        refine gor hn ?_
        refine qn502 _ _ ?_
        refine COk.seqQ fun Q503 qn503 qx503 qr503 => ?_
        refine goc hn ?_
        refine bselF hlt27 ?_
        refine goe hn ?_
        refine qx503 _ _ _ ?_
        refine qx501 _ _ _ ?_
        refine qe500 _ _ ?_
        refine qn499 _ _ ?_
        obtain rfl := Option.some.inj h21
        refine EOk.done ?_
        exact ⟨⟨_, rfl⟩, [], trivial, ⟨⟨rfl, rfl, rfl, rfl, rfl, rfl, rfl, trivial⟩, ⟨rfl, rfl, rfl, rfl, trivial⟩, rfl, rfl⟩⟩
      · obtain ⟨hx26, hd2, hlt27⟩ := restCons hd23
        replace h21 := (qcref1_Install_l1.eq_2 _ _ _ _ _ _ _ _).symm.trans h21
        refine COk.seqQ fun Q504 qn504 qx504 qr504 => ?_
        refine gor hn ?_
        refine qn504 _ _ ?_
        refine COk.seqQ fun Q505 qn505 qx505 qr505 => ?_
        refine goc hn ?_
        refine bselT hlt27 ?_
        refine gok hn ?_
        refine qn505 _ _ ?_
        refine COk.seqQ fun Q506 qn506 qx506 qr506 => ?_
        obtain ⟨o32, h31, h21⟩ := bindM h21
        refine COk.joinR (ι := { s : ((List Me) × Bool × Bool) // o32 = s }) (fun s => [(1, .int a1), (3, .ptr 3 0), (5, .ptr 5 0), (6, .ptr 6 0), (8, .own 42), (9, .bool s.1.2.1), (10, .bool s.1.2.2), (28, .sl 5 (List.map eMe x7.methods)), (29, .int (x7.methods.length : Int)), (30, .int (k10 : Int))]) (fun s => [(3, .box (eWd a0) 55), (5, .box (eMe a2) 74), (6, .box [.nilsl, .nilsl, .int (0 : Int)] 55), (42, .row 5 (List.map eMe s.1.1) 74)]) (fun Q537 qn537 qx537 qr537 => ?_) (by intro s; rw [hn]; rfl) ?_
        · refine COk.blkQ fun Q538 qn538 qe538 qx538 qr538 => ?_
          refine COk.seqQ fun Q539 qn539 qx539 qr539 => ?_
          refine gor hn ?_
          refine idxK hx26 ?_
          refine qn539 _ _ ?_
          refine COk.seqQ fun Q540 qn540 qx540 qr540 => ?_
          refine COk.seqQ fun Q541 qn541 qx541 qr541 => ?_
          refine gor hn ?_
          refine qn541 _ _ ?_
          refine goc hn ?_
          refine bselM h31 (fun hb33 h31 => ?_) (fun hb33 h31 => ?_)
          · refine COk.seqQ fun Q544 qn544 qx544 qr544 => ?_
            refine COk.sub (ts2 := [(1, .int a1), (3, .ptr 3 0), (5, .ptr 5 0), (6, .ptr 6 0), (8, .own 208), (28, .sl 5 (List.map eMe x7.methods)), (29, .int (x7.methods.length : Int)), (30, .int (k10 : Int))]) (os2 := [(3, .box (eWd a0) 55), (5, .box (eMe a2) 74), (6, .box [.nilsl, .nilsl, .int (0 : Int)] 55), (208, .row 5 (List.map eMe v11) 74)]) [] ⟨⟨rfl, rfl, rfl, rfl, rfl, (by repeat (first | exact trivial | exact rfl | (refine And.intro ?_ ?_))), rfl, rfl, trivial⟩, ⟨rfl, rfl, rfl, rfl, trivial⟩, rfl, rfl⟩ (by rw [hn]; rfl) ?_
            refine gor hn ?_
            refine Exists.intro (List.map eMe [a2]) (And.intro (by repeat (first | exact trivial | exact rfl | (refine And.intro ?_ ?_))) ?_)
            obtain ⟨hg34, h31⟩ := guardM h31
            refine appM (l2 := [a2]) hg34 (leLs_refl _) ?_
            refine qn544 _ _ ?_
            refine COk.seqQ fun Q545 qn545 qx545 qr545 => ?_
            refine gor hn ?_
            refine qn545 _ _ ?_
            refine goe hn ?_
            refine qx540 _ _ _ ?_
            refine qe538 _ _ ?_
            refine qn537 _ _ ?_
            obtain rfl := Option.some.inj h31
            refine EOk.done ?_
            exact ⟨⟨_, rfl⟩, [], trivial, ⟨⟨rfl, rfl, rfl, rfl, rfl, rfl, rfl, (by repeat (first | exact trivial | exact rfl | (refine And.intro ?_ ?_))), rfl, rfl, trivial⟩, ⟨rfl, rfl, rfl, rfl, trivial⟩, rfl, rfl⟩⟩
          · refine gok hn ?_
            refine qn540 _ _ ?_
            refine COk.seqQ fun Q546 qn546 qx546 qr546 => ?_
            refine COk.seqQ fun Q547 qn547 qx547 qr547 => ?_
            obtain ⟨o37, h36, h31⟩ := bindM h31
            refine COk.joinR (ι := { s : Bool // o37 = s }) (fun s => [(1, .int a1), (3, .ptr 3 0), (5, .ptr 5 0), (6, .ptr 6 0), (8, .own 208), (9, .bool v12), (10, .bool v13), (12, .ptr 12 0), (28, .sl 5 (List.map eMe x7.methods)), (29, .int (x7.methods.length : Int)), (30, .int (k10 : Int)), (51, .bool s.1)]) (fun s => [(3, .box (eWd a0) 55), (5, .box (eMe a2) 74), (6, .box [.nilsl, .nilsl, .int (0 : Int)] 55), (12, .box (eMe x25) 74), (208, .row 5 (List.map eMe v11) 74)]) (fun Q548 qn548 qx548 qr548 => ?_) (by intro s; rw [hn]; rfl) ?_
            · refine COk.sub (ts2 := [(1, .int a1), (3, .ptr 3 0), (5, .ptr 5 0), (6, .ptr 6 0), (8, .own 208), (9, .bool v12), (10, .bool v13), (12, .ptr 12 0), (28, .sl 5 (List.map eMe x7.methods)), (29, .int (x7.methods.length : Int)), (30, .int (k10 : Int))]) (os2 := [(3, .box (eWd a0) 55), (5, .box (eMe a2) 74), (6, .box [.nilsl, .nilsl, .int (0 : Int)] 55), (12, .box (eMe x25) 74), (208, .row 5 (List.map eMe v11) 74)]) [] ⟨⟨rfl, rfl, rfl, rfl, rfl, rfl, rfl, rfl, (by repeat (first | exact trivial | exact rfl | (refine And.intro ?_ ?_))), rfl, rfl, trivial⟩, ⟨rfl, rfl, rfl, rfl, rfl, trivial⟩, rfl, rfl⟩ (by rw [hn]; rfl) ?_
              refine gor hn ?_
              refine bselM h36 (fun hb38 h36 => ?_) (fun hb38 h36 => ?_)
              · refine bselT hb38 ?_
                refine bselT hb38 ?_
                refine bselT hb38 ?_
                refine bselT hb38 ?_
                refine bselT hb38 ?_
                refine qn548 _ _ ?_
                obtain rfl := Option.some.inj h36
                refine EOk.done ?_
                exact ⟨⟨_, rfl⟩, [], trivial, ⟨⟨rfl, rfl, rfl, rfl, rfl, rfl, rfl, rfl, (by repeat (first | exact trivial | exact rfl | (refine And.intro ?_ ?_))), rfl, rfl, rfl, trivial⟩, ⟨rfl, rfl, rfl, rfl, rfl, trivial⟩, rfl, rfl⟩⟩
              · refine bselF hb38 ?_
                refine bselF hb38 ?_
                refine bselF hb38 ?_
                refine bselF hb38 ?_
                refine bselF hb38 ?_
                refine qn548 _ _ ?_
                obtain rfl := Option.some.inj h36
                refine EOk.done ?_
                exact ⟨⟨_, rfl⟩, [], trivial, ⟨⟨rfl, rfl, rfl, rfl, rfl, rfl, rfl, rfl, (by repeat (first | exact trivial | exact rfl | (refine And.intro ?_ ?_))), rfl, rfl, rfl, trivial⟩, ⟨rfl, rfl, rfl, rfl, rfl, trivial⟩, rfl, rfl⟩⟩
            rintro ⟨v35, hv_⟩
            replace hv_ := hv_.symm
            subst hv_
            refine qn547 _ _ ?_
            obtain ⟨o42, h41, h31⟩ := bindM h31
            refine COk.joinR (ι := { s : ((List Me) × Bool) // o42 = s }) (fun s => [(1, .int a1), (3, .ptr 3 0), (5, .ptr 5 0), (6, .ptr 6 0), (8, .own 55), (9, .bool s.1.2), (10, .bool v13), (12, .ptr 12 0), (28, .sl 5 (List.map eMe x7.methods)), (29, .int (x7.methods.length : Int)), (30, .int (k10 : Int))]) (fun s => [(3, .box (eWd a0) 55), (5, .box (eMe a2) 74), (6, .box [.nilsl, .nilsl, .int (0 : Int)] 55), (12, .box (eMe x25) 74), (55, .row 5 (List.map eMe s.1.1) 74)]) (fun Q551 qn551 qx551 qr551 => ?_) (by intro s; rw [hn]; rfl) ?_
            · refine goc hn ?_
              refine bselM h41 (fun hb43 h41 => ?_) (fun hb43 h41 => ?_)
              · refine COk.seqQ fun Q552 qn552 qx552 qr552 => ?_
                refine gor hn ?_
                refine Exists.intro (List.map eMe [a2]) (And.intro (by repeat (first | exact trivial | exact rfl | (refine And.intro ?_ ?_))) ?_)
                obtain ⟨hg44, h41⟩ := guardM h41
                refine appM (l2 := [a2]) hg44 (leLs_refl _) ?_
                refine qn552 _ _ ?_
                refine gor hn ?_
                refine qn551 _ _ ?_
                obtain rfl := Option.some.inj h41
                refine EOk.done ?_
                exact ⟨⟨_, rfl⟩, [], trivial, ⟨⟨rfl, rfl, rfl, rfl, rfl, rfl, rfl, rfl, (by repeat (first | exact trivial | exact rfl | (refine And.intro ?_ ?_))), rfl, rfl, trivial⟩, ⟨rfl, rfl, rfl, rfl, rfl, trivial⟩, rfl, rfl⟩⟩
              · refine gok hn ?_
                refine qn551 _ _ ?_
                obtain rfl := Option.some.inj h41
                refine EOk.done ?_
                exact ⟨⟨_, rfl⟩, [(55, 208)], trivial, ⟨⟨rfl, rfl, rfl, rfl, rfl, rfl, rfl, rfl, (by repeat (first | exact trivial | exact rfl | (refine And.intro ?_ ?_))), rfl, rfl, trivial⟩, ⟨rfl, rfl, rfl, rfl, rfl, trivial⟩, rfl, rfl⟩⟩
            rintro ⟨⟨v39, v40⟩, rfl⟩
            refine qn546 _ _ ?_
            refine gor hn ?_
            refine Exists.intro (List.map eMe [x25]) (And.intro (by repeat (first | exact trivial | exact rfl | (refine And.intro ?_ ?_))) ?_)
            obtain ⟨hg45, h31⟩ := guardM h31
            refine appM (l2 := [x25]) hg45 (leLs_refl _) ?_
            refine qn538 _ _ ?_
            refine qn537 _ _ ?_
            obtain rfl := Option.some.inj h31
            refine EOk.done ?_
            exact ⟨⟨_, rfl⟩, [(42, 59)], trivial, ⟨⟨rfl, rfl, rfl, rfl, rfl, rfl, rfl, (by repeat (first | exact trivial | exact rfl | (refine And.intro ?_ ?_))), rfl, rfl, trivial⟩, ⟨rfl, rfl, rfl, rfl, trivial⟩, rfl, rfl⟩⟩
        rintro ⟨⟨v28, v29, v30⟩, rfl⟩
        refine qn506 _ _ ?_
        refine gor hn ?_
        refine Or.inl (And.intro (inrK hx26 hl9) ?_)
        refine qn501 _ _ ?_
        refine EOk.done ?_
        exact ⟨⟨(rest22, k10 + 1, v28, v29, v30), hd2, h21⟩, [(208, 42)], by show rest22.length < rest22.length + 1; omega, ⟨⟨rfl, rfl, rfl, rfl, rfl, rfl, rfl, (by repeat (first | exact trivial | exact rfl | (refine And.intro ?_ ?_))), rfl, rfl, trivial⟩, ⟨rfl, rfl, rfl, rfl, trivial⟩, rfl, rfl⟩⟩
    rintro ⟨⟨v17, v18, v19⟩, rfl⟩
    refine qn291 _ _ ?_
    refine COk.seqQ fun Q553 qn553 qx553 qr553 => ?_
    refine COk.seqQ fun Q554 qn554 qx554 qr554 => ?_
    refine gor hn ?_
    refine qn554 _ _ ?_
    obtain ⟨o48, h47, h⟩ := bindM h
    refine COk.joinR (ι := { s : (List Me) // o48 = s }) (fun s => [(1, .int a1), (3, .ptr 3 0), (6, .ptr 6 0), (8, .own 66), (10, .bool v19)]) (fun s => [(3, .box (eWd a0) 55), (6, .box [.nilsl, .nilsl, .int (0 : Int)] 55), (66, .row 5 (List.map eMe s.1) 74)]) (fun Q555 qn555 qx555 qr555 => ?_) (by intro s; rw [hn]; rfl) ?_
    · refine goc hn ?_
      refine bselM h47 (fun hb49 h47 => ?_) (fun hb49 h47 => ?_)
      · refine gor hn ?_
        refine Exists.intro (List.map eMe [a2]) (And.intro (by repeat (first | exact trivial | exact rfl | (refine And.intro ?_ ?_))) ?_)
        obtain ⟨hg50, h47⟩ := guardM h47
        refine appM (l2 := [a2]) hg50 (leLs_refl _) ?_
        refine qn555 _ _ ?_
        obtain rfl := Option.some.inj h47
        refine EOk.done ?_
        exact ⟨⟨_, rfl⟩, [], trivial, ⟨⟨rfl, rfl, rfl, rfl, rfl, trivial⟩, ⟨rfl, rfl, rfl, trivial⟩, rfl, rfl⟩⟩
      · refine gok hn ?_
        refine qn555 _ _ ?_
        obtain rfl := Option.some.inj h47
        refine EOk.done ?_
        exact ⟨⟨_, rfl⟩, [(66, 208)], trivial, ⟨⟨rfl, rfl, rfl, rfl, rfl, trivial⟩, ⟨rfl, rfl, rfl, trivial⟩, rfl, rfl⟩⟩
    rintro ⟨v46, hv_⟩
    replace hv_ := hv_.symm
    subst hv_
    refine qn553 _ _ ?_
    refine COk.seqQ fun Q556 qn556 qx556 qr556 => ?_
    refine COk.seqQ fun Q557 qn557 qx557 qr557 => ?_
    obtain ⟨o53, h52, h⟩ := bindM h
    refine COk.joinR (ι := { s : Bool // o53 = s }) (fun s => [(1, .int a1), (3, .ptr 3 0), (6, .ptr 6 0), (8, .own 66), (78, .bool s.1)]) (fun s => [(3, .box (eWd a0) 55), (6, .box [.nilsl, .nilsl, .int (0 : Int)] 55), (66, .row 5 (List.map eMe v46) 74)]) (fun Q558 qn558 qx558 qr558 => ?_) (by intro s; rw [hn]; rfl) ?_
    · refine gor hn ?_
      refine bselM h52 (fun hb54 h52 => ?_) (fun hb54 h52 => ?_)
      · refine bselT hb54 ?_
        refine bselT hb54 ?_
        refine bselT hb54 ?_
        obtain ⟨x55, hx56, h52⟩ := bindM h52
        refine idxM hx56 ?_
        refine bselT hb54 ?_
        refine bselT hb54 ?_
        refine bselT hb54 ?_
        refine lenM (fun hl57 => ?_)
        refine bselT hb54 ?_
        refine bselT hb54 ?_
        refine qn558 _ _ ?_
        obtain rfl := Option.some.inj h52
        refine EOk.done ?_
        exact ⟨⟨_, rfl⟩, [], trivial, ⟨⟨rfl, rfl, rfl, rfl, rfl, trivial⟩, ⟨rfl, rfl, rfl, trivial⟩, rfl, rfl⟩⟩
      · refine bselF hb54 ?_
        refine bselF hb54 ?_
        refine bselF hb54 ?_
        refine bselF hb54 ?_
        refine bselF hb54 ?_
        refine bselF hb54 ?_
        refine bselF hb54 ?_
        refine bselF hb54 ?_
        refine qn558 _ _ ?_
        obtain rfl := Option.some.inj h52
        refine EOk.done ?_
        exact ⟨⟨_, rfl⟩, [], trivial, ⟨⟨rfl, rfl, rfl, rfl, rfl, trivial⟩, ⟨rfl, rfl, rfl, trivial⟩, rfl, rfl⟩⟩
    rintro ⟨v51, hv_⟩
    replace hv_ := hv_.symm
    subst hv_
    refine qn557 _ _ ?_
    refine goc hn ?_
    refine bselM h (fun hb58 h => ?_) (fun hb58 h => ?_)
    · refine COk.seqQ fun Q560 qn560 qx560 qr560 => ?_
      refine gor hn ?_
      refine qn560 _ _ ?_
      refine got hn ?_
      refine qr556 _ _ ?_
      obtain rfl := Option.some.inj h
      exact ⟨[], _, rfl, (by repeat (first | exact trivial | exact rfl | (refine And.intro ?_ ?_))), trivial, rfl, rfl, rfl, rfl, rfl⟩
    · refine gok hn ?_
      refine qn556 _ _ ?_
      refine COk.seqQ fun Q561 qn561 qx561 qr561 => ?_
      refine gor hn ?_
      refine Exists.intro (List.map eCl ([] : List Cl)) (And.intro (by repeat (first | exact trivial | exact rfl | (refine And.intro ?_ ?_))) ?_)
      obtain ⟨hg59, h⟩ := guardM h
      refine appM (l2 := a0.classes) hg59 (leLs_refl _) ?_
      refine qn561 _ _ ?_
      refine COk.seqQ fun Q562 qn562 qx562 qr562 => ?_
      refine COk.fzAll 66 rfl ?_
      refine COk.sub (ts2 := [(1, .int a1), (3, .ptr 3 0), (6, .ptr 6 0), (8, .sl 5 (List.map eMe v46))]) (os2 := [(3, .box [.own 83, .sl 2 (List.map eOb a0.heap), .int a0.epoch] 55), (6, .box [.nilsl, .nilsl, .int (0 : Int)] 55), (83, .row 4 (List.map eCl (([] : List Cl) ++ a0.classes)) 71)]) [] ⟨⟨rfl, rfl, rfl, (by repeat (first | exact trivial | exact rfl | (refine And.intro ?_ ?_))), trivial⟩, ⟨rfl, rfl, rfl, trivial⟩, rfl, rfl⟩ (by rw [hn]; rfl) ?_
      refine gor hn ?_
      obtain ⟨x60, hx61, h⟩ := bindM h
      refine ownM hx61 ?_
      refine ldM (nthO_some hx61).2 ?_
      refine Exists.intro (List.map eCl ((([] : List Cl) ++ a0.classes).set a1.toNat (⟨x60.name, x60.super, x60.slots, v46⟩ : Cl))) (And.intro (leLs_set (nthO_some hx61).2 (by repeat (first | exact trivial | exact rfl | (refine And.intro ?_ ?_)))) ?_)
      refine qn562 _ _ ?_
      refine COk.seqQ fun Q563 qn563 qx563 qr563 => ?_
      refine gor hn ?_
      refine Or.inr ?_
      refine qn563 _ _ ?_
      refine COk.seqQ fun Q564 qn564 qx564 qr564 => ?_
      refine gor hn ?_
      refine qn564 _ _ ?_
      refine COk.fzAll 83 rfl ?_
      refine got hn ?_
      obtain rfl := Option.some.inj h
      exact ⟨[], _, rfl, (by repeat (first | exact trivial | exact rfl | (refine And.intro ?_ ?_))), trivial, rfl, rfl, rfl, rfl, rfl⟩

/- qclaw9.alive -/
set_option maxRecDepth 100000 in
set_option maxHeartbeats 1000000 in
theorem qclaw9_alive_ok (N : Nat) (r : Bool) (h : qclaw9_alive N  = some r) : Spec Try.prog 45 [] [] (.bool r) [] [] := by
  refine Spec.of tabOk Try.func45 rfl Try.ntmps45 (by kernel_rfl) rfl rfl rfl fun Γ hn => ?_
  unfold qclaw9_alive at h
  refine COk.seqQ fun Q10 qn10 qx10 qr10 => ?_
  refine gor hn ?_
  refine qn10 _ _ ?_
  refine COk.seqQ fun Q11 qn11 qx11 qr11 => ?_
  refine gor hn ?_
  obtain ⟨r1, hr2, h⟩ := bindM h
  show CallOk Try.prog _ _ _ _
  refine CallOk.as (qcref1_New_ok N  r1 hr2) (by repeat (first | exact trivial | exact rfl | (refine And.intro ?_ ?_))) trivial rfl ?_
  obtain ⟨r3, hr4, h⟩ := bindM h
  show CallOk Try.prog _ _ _ _
  refine CallOk.as (qcref1_Make_ok N r1 (⟨#[65]⟩ : ByteArray) (0 : Int) (0 : Int) r3 hr4) (by repeat (first | exact trivial | exact rfl | (refine And.intro ?_ ?_))) trivial rfl ?_
  refine qn11 _ _ ?_
  refine COk.seqQ fun Q12 qn12 qx12 qr12 => ?_
  refine gor hn ?_
  refine Exists.intro (List.map eIns [(⟨(1 : Int), (0 : Int), (0 : Int), (0 : Int), ByteArray.empty⟩ : Ins), (⟨(17 : Int), (0 : Int), (0 : Int), (0 : Int), ByteArray.empty⟩ : Ins)]) (And.intro (by repeat (first | exact trivial | exact rfl | (refine And.intro ?_ ?_))) ?_)
  obtain ⟨r5, hr6, h⟩ := bindM h
  show CallOk Try.prog _ _ _ _
  refine CallOk.fz (qcref1_Install_ok N r3.1 r3.2.1 (⟨(⟨#[103]⟩ : ByteArray), (0 : Int), (0 : Int), (0 : Int), [(⟨(1 : Int), (0 : Int), (0 : Int), (0 : Int), ByteArray.empty⟩ : Ins), (⟨(17 : Int), (0 : Int), (0 : Int), (0 : Int), ByteArray.empty⟩ : Ins)]⟩ : Me) r5 hr6) (by repeat (first | exact trivial | exact rfl | (refine And.intro ?_ ?_))) trivial rfl rfl ?_
  refine qn12 _ _ ?_
  refine COk.seqQ fun Q13 qn13 qx13 qr13 => ?_
  refine COk.sub (ts2 := [(1, .ptr 1 0), (2, .int r3.2.1)]) (os2 := [(1, .box (eWd r5.1) 55)]) [] ⟨⟨rfl, rfl, trivial⟩, ⟨rfl, trivial⟩, rfl, rfl⟩ (by rw [hn]; rfl) ?_
  refine gor hn ?_
  refine Exists.intro (List.map eIns [(⟨(1 : Int), (0 : Int), (0 : Int), (0 : Int), ByteArray.empty⟩ : Ins), (⟨(14 : Int), (0 : Int), (0 : Int), (0 : Int), (⟨#[103]⟩ : ByteArray)⟩ : Ins), (⟨(17 : Int), (0 : Int), (0 : Int), (0 : Int), ByteArray.empty⟩ : Ins)]) (And.intro (by repeat (first | exact trivial | exact rfl | (refine And.intro ?_ ?_))) ?_)
  obtain ⟨r7, hr8, h⟩ := bindM h
  show CallOk Try.prog _ _ _ _
  refine CallOk.fz (qcref1_Install_ok N r5.1 r3.2.1 (⟨(⟨#[109]⟩ : ByteArray), (0 : Int), (0 : Int), (0 : Int), [(⟨(1 : Int), (0 : Int), (0 : Int), (0 : Int), ByteArray.empty⟩ : Ins), (⟨(14 : Int), (0 : Int), (0 : Int), (0 : Int), (⟨#[103]⟩ : ByteArray)⟩ : Ins), (⟨(17 : Int), (0 : Int), (0 : Int), (0 : Int), ByteArray.empty⟩ : Ins)]⟩ : Me) r7 hr8) (by repeat (first | exact trivial | exact rfl | (refine And.intro ?_ ?_))) trivial rfl rfl ?_
  refine qn13 _ _ ?_
  refine COk.seqQ fun Q14 qn14 qx14 qr14 => ?_
  refine gor hn ?_
  refine qn14 _ _ ?_
  refine COk.seqQ fun Q15 qn15 qx15 qr15 => ?_
  refine gor hn ?_
  refine Exists.intro (List.map eLn [(⟨r3.2.1, (2 : Int)⟩ : Ln)]) (And.intro (by repeat (first | exact trivial | exact rfl | (refine And.intro ?_ ?_))) ?_)
  refine Exists.intro (List.map eTl [(⟨(⟨r3.2.1, (⟨#[109]⟩ : ByteArray), (1 : Int)⟩ : St), [(⟨r3.2.1, (2 : Int)⟩ : Ln)]⟩ : Tl)]) (And.intro (by repeat (first | exact trivial | exact rfl | (refine And.intro ?_ ?_))) ?_)
  refine qn15 _ _ ?_
  refine COk.seqQ fun Q16 qn16 qx16 qr16 => ?_
  refine COk.fzAll 41 rfl ?_
  refine COk.sub (ts2 := [(1, .ptr 1 0), (2, .int r3.2.1), (4, .ptr 4 0), (5, .sl 4 (List.map eTl [(⟨(⟨r3.2.1, (⟨#[109]⟩ : ByteArray), (1 : Int)⟩ : St), [(⟨r3.2.1, (2 : Int)⟩ : Ln)]⟩ : Tl)]))]) (os2 := [(1, .box (eWd r7.1) 55), (4, .box [.int r3.2.1, .str (⟨#[109]⟩ : ByteArray), .int (1 : Int)] 24)]) [] ⟨⟨rfl, rfl, rfl, (by repeat (first | exact trivial | exact rfl | (refine And.intro ?_ ?_))), trivial⟩, ⟨rfl, rfl, trivial⟩, rfl, rfl⟩ (by rw [hn]; rfl) ?_
  refine gor hn ?_
  obtain ⟨r9, hr10, h⟩ := bindM h
  show CallOk Try.prog _ _ _ _
  refine CallOk.as ((choose_Sites_ok N r7.1 [(⟨(⟨r3.2.1, (⟨#[109]⟩ : ByteArray), (1 : Int)⟩ : St), [(⟨r3.2.1, (2 : Int)⟩ : Ln)]⟩ : Tl)] r3.2.1 (1 : Int) r9 hr10).sw 0 45) (by repeat (first | exact trivial | exact rfl | (refine And.intro ?_ ?_))) trivial rfl ?_
  refine qn16 _ _ ?_
  refine COk.seqQ fun Q17 qn17 qx17 qr17 => ?_
  obtain ⟨o13, h12, h⟩ := bindM h
  refine COk.joinR (ι := { s : Bool // o13 = s }) (fun s => [(0, .bool s.1)]) (fun s => []) (fun Q18 qn18 qx18 qr18 => ?_) (by intro s; rw [hn]; rfl) ?_
  · refine gor hn ?_
    refine lenM (fun hl14 => ?_)
    refine bselM h12 (fun hb15 h12 => ?_) (fun hb15 h12 => ?_)
    · refine bselT hb15 ?_
      obtain ⟨x16, hx17, h12⟩ := bindM h12
      refine ownM hx17 ?_
      refine bselT hb15 ?_
      refine ldM (nthO_some hx17).2 ?_
      refine bselT hb15 ?_
      refine bselT hb15 ?_
      refine bselT hb15 ?_
      refine bselM h12 (fun hb18 h12 => ?_) (fun hb18 h12 => ?_)
      · refine bselT hb18 ?_
        obtain ⟨x19, hx20, h12⟩ := bindM h12
        refine ownM hx20 ?_
        refine bselT hb18 ?_
        refine ldM (nthO_some hx20).2 ?_
        refine bselT hb18 ?_
        refine bselT hb18 ?_
        refine bselM h12 (fun hb21 h12 => ?_) (fun hb21 h12 => ?_)
        · refine bselT hb21 ?_
          refine bselT hb21 ?_
          refine bselT hb21 ?_
          obtain ⟨r22, hr23, h12⟩ := bindM h12
          show CallOk Try.prog _ _ _ _
          refine CallOk.as (choose_Site_ok N r7.1 [(⟨(⟨r3.2.1, (⟨#[109]⟩ : ByteArray), (1 : Int)⟩ : St), [(⟨r3.2.1, (2 : Int)⟩ : Ln)]⟩ : Tl)] (⟨r3.2.1, (⟨#[109]⟩ : ByteArray), (1 : Int)⟩ : St) (⟨#[103]⟩ : ByteArray) (0 : Int) r22 hr23) (by repeat (first | exact trivial | exact rfl | (refine And.intro ?_ ?_))) trivial rfl ?_
          refine bselT hb21 ?_
          refine bselT hb21 ?_
          refine bselT hb21 ?_
          refine bselM h12 (fun hb24 h12 => ?_) (fun hb24 h12 => ?_)
          · refine bselT hb24 ?_
            refine bselT hb24 ?_
            obtain ⟨r25, hr26, h12⟩ := bindM h12
            show CallOk Try.prog _ _ _ _
            refine CallOk.as (choose_Site_ok N r7.1 [] (⟨r3.2.1, (⟨#[109]⟩ : ByteArray), (1 : Int)⟩ : St) (⟨#[103]⟩ : ByteArray) (0 : Int) r25 hr26) (by repeat (first | exact trivial | exact rfl | (refine And.intro ?_ ?_))) trivial rfl ?_
            refine bselT hb24 ?_
            refine bselT hb24 ?_
            refine bselM h12 (fun hb27 h12 => ?_) (fun hb27 h12 => ?_)
            · refine bselT hb27 ?_
              refine bselT hb27 ?_
              refine bselT hb27 ?_
              obtain ⟨x28, hx29, h12⟩ := bindM h12
              refine idxM hx29 ?_
              refine bselT hb27 ?_
              refine bselT hb27 ?_
              refine bselT hb27 ?_
              obtain ⟨x30, hx31, h12⟩ := bindM h12
              refine idxM hx31 ?_
              refine bselT hb27 ?_
              refine bselT hb27 ?_
              obtain ⟨r32, hr33, h12⟩ := bindM h12
              show CallOk Try.prog _ _ _ _
              refine CallOk.as (choose_Leaf_ok N x30 r32 hr33) (by repeat (first | exact trivial | exact rfl | (refine And.intro ?_ ?_))) trivial rfl ?_
              refine bselT hb27 ?_
              refine bselM h12 (fun hb34 h12 => ?_) (fun hb34 h12 => ?_)
              · refine bselT hb34 ?_
                refine bselT hb34 ?_
                refine bselT hb34 ?_
                obtain ⟨x35, hx36, h12⟩ := bindM h12
                refine idxM hx36 ?_
                refine bselT hb34 ?_
                refine bselT hb34 ?_
                refine bselT hb34 ?_
                obtain ⟨x37, hx38, h12⟩ := bindM h12
                refine idxM hx38 ?_
                refine bselT hb34 ?_
                refine bselT hb34 ?_
                obtain ⟨r39, hr40, h12⟩ := bindM h12
                show CallOk Try.prog _ _ _ _
                refine CallOk.as (choose_Leaf_ok N x37 r39 hr40) (by repeat (first | exact trivial | exact rfl | (refine And.intro ?_ ?_))) trivial rfl ?_
                refine bselT hb34 ?_
                refine bselT hb34 ?_
                refine qn18 _ _ ?_
                obtain rfl := Option.some.inj h12
                refine EOk.done ?_
                exact ⟨⟨_, rfl⟩, [], trivial, ⟨⟨rfl, trivial⟩, trivial, rfl, rfl⟩⟩
              · refine bselF hb34 ?_
                refine bselF hb34 ?_
                refine bselF hb34 ?_
                refine bselF hb34 ?_
                refine bselF hb34 ?_
                refine bselF hb34 ?_
                refine bselF hb34 ?_
                refine bselF hb34 ?_
                refine bselF hb34 ?_
                refine bselF hb34 ?_
                refine qn18 _ _ ?_
                obtain rfl := Option.some.inj h12
                refine EOk.done ?_
                exact ⟨⟨_, rfl⟩, [], trivial, ⟨⟨rfl, trivial⟩, trivial, rfl, rfl⟩⟩
            · refine bselF hb27 ?_
              refine bselF hb27 ?_
              refine bselF hb27 ?_
              refine bselF hb27 ?_
              refine bselF hb27 ?_
              refine bselF hb27 ?_
              refine bselF hb27 ?_
              refine bselF hb27 ?_
              refine bselF hb27 ?_
              refine qn18 _ _ ?_
              obtain rfl := Option.some.inj h12
              refine EOk.done ?_
              exact ⟨⟨_, rfl⟩, [], trivial, ⟨⟨rfl, trivial⟩, trivial, rfl, rfl⟩⟩
          · refine bselF hb24 ?_
            refine bselF hb24 ?_
            refine bselF hb24 ?_
            refine bselF hb24 ?_
            refine qn18 _ _ ?_
            obtain rfl := Option.some.inj h12
            refine EOk.done ?_
            exact ⟨⟨_, rfl⟩, [], trivial, ⟨⟨rfl, trivial⟩, trivial, rfl, rfl⟩⟩
        · refine bselF hb21 ?_
          refine bselF hb21 ?_
          refine bselF hb21 ?_
          refine bselF hb21 ?_
          refine bselF hb21 ?_
          refine bselF hb21 ?_
          refine qn18 _ _ ?_
          obtain rfl := Option.some.inj h12
          refine EOk.done ?_
          exact ⟨⟨_, rfl⟩, [], trivial, ⟨⟨rfl, trivial⟩, trivial, rfl, rfl⟩⟩
      · refine bselF hb18 ?_
        refine bselF hb18 ?_
        refine bselF hb18 ?_
        refine bselF hb18 ?_
        refine qn18 _ _ ?_
        obtain rfl := Option.some.inj h12
        refine EOk.done ?_
        exact ⟨⟨_, rfl⟩, [], trivial, ⟨⟨rfl, trivial⟩, trivial, rfl, rfl⟩⟩
    · refine bselF hb15 ?_
      refine bselF hb15 ?_
      refine bselF hb15 ?_
      refine bselF hb15 ?_
      refine bselF hb15 ?_
      refine qn18 _ _ ?_
      obtain rfl := Option.some.inj h12
      refine EOk.done ?_
      exact ⟨⟨_, rfl⟩, [], trivial, ⟨⟨rfl, trivial⟩, trivial, rfl, rfl⟩⟩
  rintro ⟨v11, hv_⟩
  replace hv_ := hv_.symm
  subst hv_
  refine qn17 _ _ ?_
  refine got hn ?_
  obtain rfl := Option.some.inj h
  exact ⟨[], _, rfl, (by repeat (first | exact trivial | exact rfl | (refine And.intro ?_ ?_))), trivial, rfl, rfl, rfl, rfl, rfl⟩

/- qclaw9.ChooseMost -/
set_option maxRecDepth 100000 in
set_option maxHeartbeats 1000000 in
theorem qclaw9_ChooseMost_ok (N : Nat) (a0 : Wd) (a1 : (List Tl)) (a2 : St) (a3 : ByteArray) (a4 : Int) (r : Bool) (h : qclaw9_ChooseMost N a0 a1 a2 a3 a4 = some r) : Spec Try.prog 9 [] [.agg (eWd a0), .sl 4 (List.map eTl a1), .agg (eSt a2), .str a3, .int a4] (.bool r) [] [] := by
  refine Spec.of tabOk Try.func9 rfl Try.ntmps9 (by kernel_rfl) rfl rfl rfl fun Γ hn => ?_
  unfold qclaw9_ChooseMost at h
  refine COk.seqQ fun Q860 qn860 qx860 qr860 => ?_
  refine gor hn ?_
  refine qn860 _ _ ?_
  refine COk.seqQ fun Q861 qn861 qx861 qr861 => ?_
  refine COk.seqQ fun Q862 qn862 qx862 qr862 => ?_
  refine gor hn ?_
  obtain ⟨r1, hr2, h⟩ := bindM h
  show CallOk Try.prog _ _ _ _
  refine CallOk.as (qclaw9_alive_ok N  r1 hr2) (by repeat (first | exact trivial | exact rfl | (refine And.intro ?_ ?_))) trivial rfl ?_
  refine qn862 _ _ ?_
  refine goc hn ?_
  refine bselM h (fun hb3 h => ?_) (fun hb3 h => ?_)
  · refine COk.seqQ fun Q864 qn864 qx864 qr864 => ?_
    refine gor hn ?_
    refine qn864 _ _ ?_
    refine got hn ?_
    refine qr861 _ _ ?_
    obtain rfl := Option.some.inj h
    exact ⟨[], _, rfl, (by repeat (first | exact trivial | exact rfl | (refine And.intro ?_ ?_))), trivial, rfl, rfl, rfl, rfl, rfl⟩
  · refine gok hn ?_
    refine qn861 _ _ ?_
    refine COk.seqQ fun Q865 qn865 qx865 qr865 => ?_
    refine COk.seqQ fun Q866 qn866 qx866 qr866 => ?_
    obtain ⟨o6, h5, h⟩ := bindM h
    refine COk.joinR (ι := { s : Bool // o6 = s }) (fun s => [(1, .sl 4 (List.map eTl a1)), (3, .str a3), (4, .int a4), (5, .ptr 5 0), (7, .ptr 7 0), (32, .bool s.1)]) (fun s => [(5, .box (eWd a0) 55), (7, .box (eSt a2) 24)]) (fun Q867 qn867 qx867 qr867 => ?_) (by intro s; rw [hn]; rfl) ?_
    · refine gor hn ?_
      obtain ⟨r7, hr8, h5⟩ := bindM h5
      show CallOk Try.prog _ _ _ _
      refine CallOk.as (qcref1_Right_ok N a0 r7 hr8) (by repeat (first | exact trivial | exact rfl | (refine And.intro ?_ ?_))) trivial rfl ?_
      refine bselM h5 (fun hb9 h5 => ?_) (fun hb9 h5 => ?_)
      · refine bselT hb9 ?_
        refine bselT hb9 ?_
        refine bselT hb9 ?_
        refine qn867 _ _ ?_
        obtain rfl := Option.some.inj h5
        refine EOk.done ?_
        exact ⟨⟨_, rfl⟩, [], trivial, ⟨⟨(by repeat (first | exact trivial | exact rfl | (refine And.intro ?_ ?_))), rfl, rfl, rfl, rfl, rfl, trivial⟩, ⟨rfl, rfl, trivial⟩, rfl, rfl⟩⟩
      · refine bselF hb9 ?_
        obtain ⟨r10, hr11, h5⟩ := bindM h5
        show CallOk Try.prog _ _ _ _
        refine CallOk.as (qclaw9_small_ok N a1 r10 hr11) (by repeat (first | exact trivial | exact rfl | (refine And.intro ?_ ?_))) trivial rfl ?_
        refine bselF hb9 ?_
        refine bselF hb9 ?_
        refine qn867 _ _ ?_
        obtain rfl := Option.some.inj h5
        refine EOk.done ?_
        exact ⟨⟨_, rfl⟩, [], trivial, ⟨⟨(by repeat (first | exact trivial | exact rfl | (refine And.intro ?_ ?_))), rfl, rfl, rfl, rfl, rfl, trivial⟩, ⟨rfl, rfl, trivial⟩, rfl, rfl⟩⟩
    rintro ⟨v4, hv_⟩
    replace hv_ := hv_.symm
    subst hv_
    refine qn866 _ _ ?_
    refine goc hn ?_
    refine bselM h (fun hb12 h => ?_) (fun hb12 h => ?_)
    · refine COk.seqQ fun Q869 qn869 qx869 qr869 => ?_
      refine gor hn ?_
      refine qn869 _ _ ?_
      refine got hn ?_
      refine qr865 _ _ ?_
      obtain rfl := Option.some.inj h
      exact ⟨[], _, rfl, (by repeat (first | exact trivial | exact rfl | (refine And.intro ?_ ?_))), trivial, rfl, rfl, rfl, rfl, rfl⟩
    · refine gok hn ?_
      refine qn865 _ _ ?_
      refine COk.seqQ fun Q870 qn870 qx870 qr870 => ?_
      refine gor hn ?_
      obtain ⟨r13, hr14, h⟩ := bindM h
      show CallOk Try.prog _ _ _ _
      refine CallOk.as (choose_Site_ok N a0 a1 a2 a3 a4 r13 hr14) (by repeat (first | exact trivial | exact rfl | (refine And.intro ?_ ?_))) trivial rfl ?_
      refine qn870 _ _ ?_
      refine COk.seqQ fun Q871 qn871 qx871 qr871 => ?_
      refine COk.seqQ fun Q872 qn872 qx872 qr872 => ?_
      refine gor hn ?_
      refine qn872 _ _ ?_
      refine goc hn ?_
      refine bselM h (fun hb15 h => ?_) (fun hb15 h => ?_)
      · refine COk.seqQ fun Q874 qn874 qx874 qr874 => ?_
        refine gor hn ?_
        refine qn874 _ _ ?_
        refine got hn ?_
        refine qr871 _ _ ?_
        obtain rfl := Option.some.inj h
        exact ⟨[], _, rfl, (by repeat (first | exact trivial | exact rfl | (refine And.intro ?_ ?_))), trivial, rfl, rfl, rfl, rfl, rfl⟩
      · refine gok hn ?_
        refine qn871 _ _ ?_
        refine COk.seqQ fun Q875 qn875 qx875 qr875 => ?_
        refine gor hn ?_
        refine qn875 _ _ ?_
        refine COk.seqQ fun Q876 qn876 qx876 qr876 => ?_
        refine COk.seqQ fun Q877 qn877 qx877 qr877 => ?_
        refine COk.sub (ts2 := [(1, .sl 4 (List.map eTl a1)), (3, .str a3), (4, .int a4), (5, .ptr 5 0), (7, .ptr 7 0), (11, .int r13), (12, .int (0 : Int)), (13, .int (0 : Int))]) (os2 := [(5, .box (eWd a0) 55), (7, .box (eSt a2) 24)]) [] ⟨⟨(by repeat (first | exact trivial | exact rfl | (refine And.intro ?_ ?_))), rfl, rfl, rfl, rfl, rfl, rfl, rfl, trivial⟩, ⟨rfl, rfl, trivial⟩, rfl, rfl⟩ (by rw [hn]; rfl) ?_
        refine gor hn ?_
        refine lenM (fun hl16 => ?_)
        refine qn877 _ _ ?_
        obtain ⟨o24, h25, h⟩ := bindM h
        refine COk.joinR (ι := { s : (Int × Int) // o24 = s }) (fun s => [(3, .str a3), (4, .int a4), (5, .ptr 5 0), (11, .int r13), (12, .int s.1.1), (13, .int s.1.2)]) (fun s => [(5, .box (eWd a0) 55)]) (fun Q1448 qn1448 qx1448 qr1448 => ?_) (by intro s; rw [hn]; rfl) ?_
        · refine COk.blkQ fun Q1449 qn1449 qe1449 qx1449 qr1449 => ?_
          refine COk.loopQ (ι := { q : ((List Tl) × Nat × Int × Int) // q.1 = a1.drop q.2.1 ∧ qclaw9_ChooseMost_l1 N a2 r13 q.1 q.2.1 q.2.2.1 q.2.2.2 = some o24 }) (fun q => [(3, .str a3), (4, .int a4), (5, .ptr 5 0), (7, .ptr 7 0), (11, .int r13), (12, .int q.1.2.2.1), (13, .int q.1.2.2.2), (41, .sl 4 (List.map eTl a1)), (42, .int (a1.length : Int)), (43, .int (q.1.2.1 : Int))]) (fun q => [(5, .box (eWd a0) 55), (7, .box (eSt a2) 24)]) (fun q => q.1.1.length) ⟨(a1, 0, (0 : Int), (0 : Int)), rfl, h25⟩ [] ⟨⟨rfl, rfl, rfl, rfl, rfl, rfl, rfl, (by repeat (first | exact trivial | exact rfl | (refine And.intro ?_ ?_))), rfl, rfl, trivial⟩, ⟨rfl, rfl, trivial⟩, rfl, rfl⟩ (by intro q; rw [hn]; rfl) ?_
          rintro ⟨⟨rest_, k17, v18, v19⟩, hd27, h25⟩ Q1450 qn1450 qx1450 qr1450
          replace hd27 : rest_ = a1.drop k17 := hd27
          rcases rest_ with _ | ⟨x29, rest26⟩
          · have hlt31 := restNil hd27
            replace h25 := (qclaw9_ChooseMost_l1.eq_1 _ _ _ _ _ _).symm.trans h25
            refine COk.seqQ fun Q1451 qn1451 qx1451 qr1451 => ?_
            refine gor hn ?_
            refine qn1451 _ _ ?_
            refine COk.seqQ fun Q1452 qn1452 qx1452 qr1452 => ?_
            refine goc hn ?_
            refine bselF hlt31 ?_
            refine goe hn ?_
            refine qx1452 _ _ _ ?_
            refine qx1450 _ _ _ ?_
            refine qe1449 _ _ ?_
            refine qn1448 _ _ ?_
            obtain rfl := Option.some.inj h25
            refine EOk.done ?_
            exact ⟨⟨_, rfl⟩, [], trivial, ⟨⟨rfl, rfl, rfl, rfl, rfl, rfl, trivial⟩, ⟨rfl, trivial⟩, rfl, rfl⟩⟩
          · obtain ⟨hx30, hd2, hlt31⟩ := restCons hd27
            replace h25 := (qclaw9_ChooseMost_l1.eq_2 _ _ _ _ _ _ _ _).symm.trans h25
            refine COk.seqQ fun Q1453 qn1453 qx1453 qr1453 => ?_
            refine gor hn ?_
            refine qn1453 _ _ ?_
            refine COk.seqQ fun Q1454 qn1454 qx1454 qr1454 => ?_
            refine goc hn ?_
            refine bselT hlt31 ?_
            refine gok hn ?_
            refine qn1454 _ _ ?_
            refine COk.seqQ fun Q1455 qn1455 qx1455 qr1455 => ?_
            obtain ⟨o35, h34, h25⟩ := bindM h25
            refine COk.joinR (ι := { s : (Int × Int) // o35 = s }) (fun s => [(3, .str a3), (4, .int a4), (5, .ptr 5 0), (7, .ptr 7 0), (11, .int r13), (12, .int s.1.1), (13, .int s.1.2), (41, .sl 4 (List.map eTl a1)), (42, .int (a1.length : Int)), (43, .int (k17 : Int))]) (fun s => [(5, .box (eWd a0) 55), (7, .box (eSt a2) 24)]) (fun Q1580 qn1580 qx1580 qr1580 => ?_) (by intro s; rw [hn]; rfl) ?_
            · refine COk.blkQ fun Q1581 qn1581 qe1581 qx1581 qr1581 => ?_
              refine COk.seqQ fun Q1582 qn1582 qx1582 qr1582 => ?_
              refine gor hn ?_
              refine idxK hx30 ?_
              refine qn1582 _ _ ?_
              refine COk.seqQ fun Q1583 qn1583 qx1583 qr1583 => ?_
              refine COk.seqQ fun Q1584 qn1584 qx1584 qr1584 => ?_
              refine gor hn ?_
              refine qn1584 _ _ ?_
              refine goc hn ?_
              refine bselM h34 (fun hb36 h34 => ?_) (fun hb36 h34 => ?_)
              · refine goe hn ?_
                refine qx1583 _ _ _ ?_
                refine qe1581 _ _ ?_
                refine qn1580 _ _ ?_
                obtain rfl := Option.some.inj h34
                refine EOk.done ?_
                exact ⟨⟨_, rfl⟩, [], trivial, ⟨⟨rfl, rfl, rfl, rfl, rfl, rfl, rfl, (by repeat (first | exact trivial | exact rfl | (refine And.intro ?_ ?_))), rfl, rfl, trivial⟩, ⟨rfl, rfl, trivial⟩, rfl, rfl⟩⟩
              · refine gok hn ?_
                refine qn1583 _ _ ?_
                refine COk.seqQ fun Q1585 qn1585 qx1585 qr1585 => ?_
                refine COk.sub (ts2 := [(3, .str a3), (4, .int a4), (5, .ptr 5 0), (7, .ptr 7 0), (11, .int r13), (12, .int v18), (13, .int v19), (15, .ptr 15 0), (41, .sl 4 (List.map eTl a1)), (42, .int (a1.length : Int)), (43, .int (k17 : Int))]) (os2 := [(5, .box (eWd a0) 55), (7, .box (eSt a2) 24), (15, .box (eTl x29) 27)]) [] ⟨⟨rfl, rfl, rfl, rfl, rfl, rfl, rfl, rfl, (by repeat (first | exact trivial | exact rfl | (refine And.intro ?_ ?_))), rfl, rfl, trivial⟩, ⟨rfl, rfl, rfl, trivial⟩, rfl, rfl⟩ (by rw [hn]; rfl) ?_
                refine gor hn ?_
                refine lenM (fun hl37 => ?_)
                refine qn1585 _ _ ?_
                obtain ⟨o45, h46, h34⟩ := bindM h34
                refine COk.joinR (ι := { s : (Int × Int) // o45 = s }) (fun s => [(3, .str a3), (4, .int a4), (5, .ptr 5 0), (7, .ptr 7 0), (11, .int r13), (12, .int s.1.1), (13, .int s.1.2), (41, .sl 4 (List.map eTl a1)), (42, .int (a1.length : Int)), (43, .int (k17 : Int))]) (fun s => [(5, .box (eWd a0) 55), (7, .box (eSt a2) 24)]) (fun Q1625 qn1625 qx1625 qr1625 => ?_) (by intro s; rw [hn]; rfl) ?_
                · refine COk.blkQ fun Q1626 qn1626 qe1626 qx1626 qr1626 => ?_
                  refine COk.loopQ (ι := { q : ((List Ln) × Nat × Int × Int) // q.1 = x29.classes.drop q.2.1 ∧ qclaw9_ChooseMost_l2 N r13 q.1 q.2.1 q.2.2.1 q.2.2.2 = some o45 }) (fun q => [(3, .str a3), (4, .int a4), (5, .ptr 5 0), (7, .ptr 7 0), (11, .int r13), (12, .int q.1.2.2.1), (13, .int q.1.2.2.2), (41, .sl 4 (List.map eTl a1)), (42, .int (a1.length : Int)), (43, .int (k17 : Int)), (52, .sl 2 (List.map eLn x29.classes)), (53, .int (x29.classes.length : Int)), (54, .int (q.1.2.1 : Int))]) (fun q => [(5, .box (eWd a0) 55), (7, .box (eSt a2) 24)]) (fun q => q.1.1.length) ⟨(x29.classes, 0, v18, v19), rfl, h46⟩ [] ⟨⟨rfl, rfl, rfl, rfl, rfl, rfl, rfl, (by repeat (first | exact trivial | exact rfl | (refine And.intro ?_ ?_))), rfl, rfl, (by repeat (first | exact trivial | exact rfl | (refine And.intro ?_ ?_))), rfl, rfl, trivial⟩, ⟨rfl, rfl, trivial⟩, rfl, rfl⟩ (by intro q; rw [hn]; rfl) ?_
                  rintro ⟨⟨rest_, k38, v39, v40⟩, hd48, h46⟩ Q1627 qn1627 qx1627 qr1627
                  replace hd48 : rest_ = x29.classes.drop k38 := hd48
                  rcases rest_ with _ | ⟨x50, rest47⟩
                  · have hlt52 := restNil hd48
                    replace h46 := (qclaw9_ChooseMost_l2.eq_1 _ _ _ _ _).symm.trans h46
                    refine COk.seqQ fun Q1628 qn1628 qx1628 qr1628 => ?_
                    refine gor hn ?_
                    refine qn1628 _ _ ?_
                    refine COk.seqQ fun Q1629 qn1629 qx1629 qr1629 => ?_
                    refine goc hn ?_
                    refine bselF hlt52 ?_
                    refine goe hn ?_
                    refine qx1629 _ _ _ ?_
                    refine qx1627 _ _ _ ?_
                    refine qe1626 _ _ ?_
                    refine qn1625 _ _ ?_
                    obtain rfl := Option.some.inj h46
                    refine EOk.done ?_
                    exact ⟨⟨_, rfl⟩, [], trivial, ⟨⟨rfl, rfl, rfl, rfl, rfl, rfl, rfl, (by repeat (first | exact trivial | exact rfl | (refine And.intro ?_ ?_))), rfl, rfl, trivial⟩, ⟨rfl, rfl, trivial⟩, rfl, rfl⟩⟩
                  · obtain ⟨hx51, hd2, hlt52⟩ := restCons hd48
                    replace h46 := (qclaw9_ChooseMost_l2.eq_2 _ _ _ _ _ _ _).symm.trans h46
                    refine COk.seqQ fun Q1630 qn1630 qx1630 qr1630 => ?_
                    refine gor hn ?_
                    refine qn1630 _ _ ?_
                    refine COk.seqQ fun Q1631 qn1631 qx1631 qr1631 => ?_
                    refine goc hn ?_
                    refine bselT hlt52 ?_
                    refine gok hn ?_
                    refine qn1631 _ _ ?_
                    refine COk.seqQ fun Q1632 qn1632 qx1632 qr1632 => ?_
                    refine COk.blkQ fun Q1638 qn1638 qe1638 qx1638 qr1638 => ?_
                    refine COk.seqQ fun Q1639 qn1639 qx1639 qr1639 => ?_
                    refine gor hn ?_
                    refine idxK hx51 ?_
                    refine qn1639 _ _ ?_
                    refine COk.seqQ fun Q1640 qn1640 qx1640 qr1640 => ?_
                    refine COk.sub (ts2 := [(3, .str a3), (4, .int a4), (5, .ptr 5 0), (7, .ptr 7 0), (11, .int r13), (12, .int v39), (13, .int v40), (17, .ptr 17 0), (41, .sl 4 (List.map eTl a1)), (42, .int (a1.length : Int)), (43, .int (k17 : Int)), (52, .sl 2 (List.map eLn x29.classes)), (53, .int (x29.classes.length : Int)), (54, .int (k38 : Int))]) (os2 := [(5, .box (eWd a0) 55), (7, .box (eSt a2) 24), (17, .box (eLn x50) 29)]) [] ⟨⟨rfl, rfl, rfl, rfl, rfl, rfl, rfl, rfl, (by repeat (first | exact trivial | exact rfl | (refine And.intro ?_ ?_))), rfl, rfl, (by repeat (first | exact trivial | exact rfl | (refine And.intro ?_ ?_))), rfl, rfl, trivial⟩, ⟨rfl, rfl, rfl, trivial⟩, rfl, rfl⟩ (by rw [hn]; rfl) ?_
                    refine gor hn ?_
                    refine Or.inr ?_
                    refine qn1640 _ _ ?_
                    refine COk.seqQ fun Q1641 qn1641 qx1641 qr1641 => ?_
                    refine COk.sub (ts2 := [(3, .str a3), (4, .int a4), (5, .ptr 5 0), (7, .ptr 7 0), (11, .int r13), (12, .int v39), (13, .int (wr (v40 + x50.found))), (17, .ptr 17 0), (41, .sl 4 (List.map eTl a1)), (42, .int (a1.length : Int)), (43, .int (k17 : Int)), (52, .sl 2 (List.map eLn x29.classes)), (53, .int (x29.classes.length : Int)), (54, .int (k38 : Int))]) (os2 := [(5, .box (eWd a0) 55), (7, .box (eSt a2) 24), (17, .box (eLn x50) 29)]) [] ⟨⟨rfl, rfl, rfl, rfl, rfl, rfl, rfl, rfl, (by repeat (first | exact trivial | exact rfl | (refine And.intro ?_ ?_))), rfl, rfl, (by repeat (first | exact trivial | exact rfl | (refine And.intro ?_ ?_))), rfl, rfl, trivial⟩, ⟨rfl, rfl, rfl, trivial⟩, rfl, rfl⟩ (by rw [hn]; rfl) ?_
                    refine gor hn ?_
                    refine qn1641 _ _ ?_
                    obtain ⟨o55, h54, h46⟩ := bindM h46
                    refine COk.joinR (ι := { s : Int // o55 = s }) (fun s => [(3, .str a3), (4, .int a4), (5, .ptr 5 0), (7, .ptr 7 0), (11, .int r13), (12, .int s.1), (13, .int (wr (v40 + x50.found))), (41, .sl 4 (List.map eTl a1)), (42, .int (a1.length : Int)), (43, .int (k17 : Int)), (52, .sl 2 (List.map eLn x29.classes)), (53, .int (x29.classes.length : Int)), (54, .int (k38 : Int))]) (fun s => [(5, .box (eWd a0) 55), (7, .box (eSt a2) 24)]) (fun Q1642 qn1642 qx1642 qr1642 => ?_) (by intro s; rw [hn]; rfl) ?_
                    · refine goc hn ?_
                      refine bselM h54 (fun hb56 h54 => ?_) (fun hb56 h54 => ?_)
                      · refine COk.sub (ts2 := [(3, .str a3), (4, .int a4), (5, .ptr 5 0), (7, .ptr 7 0), (11, .int r13), (12, .int v39), (13, .int (wr (v40 + x50.found))), (17, .ptr 17 0), (41, .sl 4 (List.map eTl a1)), (42, .int (a1.length : Int)), (43, .int (k17 : Int)), (52, .sl 2 (List.map eLn x29.classes)), (53, .int (x29.classes.length : Int)), (54, .int (k38 : Int))]) (os2 := [(5, .box (eWd a0) 55), (7, .box (eSt a2) 24), (17, .box (eLn x50) 29)]) [] ⟨⟨rfl, rfl, rfl, rfl, rfl, rfl, rfl, rfl, (by repeat (first | exact trivial | exact rfl | (refine And.intro ?_ ?_))), rfl, rfl, (by repeat (first | exact trivial | exact rfl | (refine And.intro ?_ ?_))), rfl, rfl, trivial⟩, ⟨rfl, rfl, rfl, trivial⟩, rfl, rfl⟩ (by rw [hn]; rfl) ?_
                        refine gor hn ?_
                        refine Or.inr ?_
                        refine qn1642 _ _ ?_
                        obtain rfl := Option.some.inj h54
                        refine EOk.done ?_
                        exact ⟨⟨_, rfl⟩, [], trivial, ⟨⟨rfl, rfl, rfl, rfl, rfl, rfl, rfl, (by repeat (first | exact trivial | exact rfl | (refine And.intro ?_ ?_))), rfl, rfl, (by repeat (first | exact trivial | exact rfl | (refine And.intro ?_ ?_))), rfl, rfl, trivial⟩, ⟨rfl, rfl, trivial⟩, rfl, rfl⟩⟩
                      · refine gok hn ?_
                        refine qn1642 _ _ ?_
                        obtain rfl := Option.some.inj h54
                        refine EOk.done ?_
                        exact ⟨⟨_, rfl⟩, [], trivial, ⟨⟨rfl, rfl, rfl, rfl, rfl, rfl, rfl, (by repeat (first | exact trivial | exact rfl | (refine And.intro ?_ ?_))), rfl, rfl, (by repeat (first | exact trivial | exact rfl | (refine And.intro ?_ ?_))), rfl, rfl, trivial⟩, ⟨rfl, rfl, trivial⟩, rfl, rfl⟩⟩
                    rintro ⟨v53, hv_⟩
                    replace hv_ := hv_.symm
                    subst hv_
                    refine qn1638 _ _ ?_
                    refine qn1632 _ _ ?_
                    refine gor hn ?_
                    refine Or.inl (And.intro (inrK hx51 hl37) ?_)
                    refine qn1627 _ _ ?_
                    refine EOk.done ?_
                    exact ⟨⟨(rest47, k38 + 1, v53, (wr (v40 + x50.found))), hd2, h46⟩, [], by show rest47.length < rest47.length + 1; omega, ⟨⟨rfl, rfl, rfl, rfl, rfl, rfl, rfl, (by repeat (first | exact trivial | exact rfl | (refine And.intro ?_ ?_))), rfl, rfl, (by repeat (first | exact trivial | exact rfl | (refine And.intro ?_ ?_))), rfl, rfl, trivial⟩, ⟨rfl, rfl, trivial⟩, rfl, rfl⟩⟩
                rintro ⟨⟨v43, v44⟩, rfl⟩
                refine qn1581 _ _ ?_
                refine qn1580 _ _ ?_
                obtain rfl := Option.some.inj h34
                refine EOk.done ?_
                exact ⟨⟨_, rfl⟩, [], trivial, ⟨⟨rfl, rfl, rfl, rfl, rfl, rfl, rfl, (by repeat (first | exact trivial | exact rfl | (refine And.intro ?_ ?_))), rfl, rfl, trivial⟩, ⟨rfl, rfl, trivial⟩, rfl, rfl⟩⟩
            rintro ⟨⟨v32, v33⟩, rfl⟩
            refine qn1455 _ _ ?_
            refine gor hn ?_
            refine Or.inl (And.intro (inrK hx30 hl16) ?_)
            refine qn1450 _ _ ?_
            refine EOk.done ?_
            exact ⟨⟨(rest26, k17 + 1, v32, v33), hd2, h25⟩, [], by show rest26.length < rest26.length + 1; omega, ⟨⟨rfl, rfl, rfl, rfl, rfl, rfl, rfl, (by repeat (first | exact trivial | exact rfl | (refine And.intro ?_ ?_))), rfl, rfl, trivial⟩, ⟨rfl, rfl, trivial⟩, rfl, rfl⟩⟩
        rintro ⟨⟨v22, v23⟩, rfl⟩
        refine qn876 _ _ ?_
        refine COk.seqQ fun Q1643 qn1643 qx1643 qr1643 => ?_
        refine gor hn ?_
        obtain ⟨r57, hr58, h⟩ := bindM h
        show CallOk Try.prog _ _ _ _
        refine CallOk.as (qcref1_Find_ok N a0 r13 a3 r57 hr58) (by repeat (first | exact trivial | exact rfl | (refine And.intro ?_ ?_))) trivial rfl ?_
        refine qn1643 _ _ ?_
        refine COk.seqQ fun Q1644 qn1644 qx1644 qr1644 => ?_
        refine COk.seqQ fun Q1645 qn1645 qx1645 qr1645 => ?_
        obtain ⟨o61, h60, h⟩ := bindM h
        refine COk.joinR (ι := { s : Bool // o61 = s }) (fun s => [(4, .int a4), (5, .ptr 5 0), (18, .int r57.1), (19, .int r57.2), (87, .bool s.1)]) (fun s => [(5, .box (eWd a0) 55)]) (fun Q1646 qn1646 qx1646 qr1646 => ?_) (by intro s; rw [hn]; rfl) ?_
        · refine gor hn ?_
          refine Or.inr ?_
          refine bselM h60 (fun hb62 h60 => ?_) (fun hb62 h60 => ?_)
          · refine bselT hb62 ?_
            refine bselT hb62 ?_
            refine qn1646 _ _ ?_
            obtain rfl := Option.some.inj h60
            refine EOk.done ?_
            exact ⟨⟨_, rfl⟩, [], trivial, ⟨⟨rfl, rfl, rfl, rfl, rfl, trivial⟩, ⟨rfl, trivial⟩, rfl, rfl⟩⟩
          · refine bselF hb62 ?_
            refine bselF hb62 ?_
            refine qn1646 _ _ ?_
            obtain rfl := Option.some.inj h60
            refine EOk.done ?_
            exact ⟨⟨_, rfl⟩, [], trivial, ⟨⟨rfl, rfl, rfl, rfl, rfl, trivial⟩, ⟨rfl, trivial⟩, rfl, rfl⟩⟩
        rintro ⟨v59, hv_⟩
        replace hv_ := hv_.symm
        subst hv_
        refine qn1645 _ _ ?_
        refine goc hn ?_
        refine bselM h (fun hb63 h => ?_) (fun hb63 h => ?_)
        · refine COk.seqQ fun Q1648 qn1648 qx1648 qr1648 => ?_
          refine gor hn ?_
          refine qn1648 _ _ ?_
          refine got hn ?_
          refine qr1644 _ _ ?_
          obtain rfl := Option.some.inj h
          exact ⟨[], _, rfl, (by repeat (first | exact trivial | exact rfl | (refine And.intro ?_ ?_))), trivial, rfl, rfl, rfl, rfl, rfl⟩
        · refine gok hn ?_
          refine qn1644 _ _ ?_
          refine COk.seqQ fun Q1649 qn1649 qx1649 qr1649 => ?_
          refine gor hn ?_
          obtain ⟨x64, hx65, h⟩ := bindM h
          refine idxM hx65 ?_
          obtain ⟨x66, hx67, h⟩ := bindM h
          refine idxM hx67 ?_
          refine qn1649 _ _ ?_
          refine COk.seqQ fun Q1650 qn1650 qx1650 qr1650 => ?_
          refine COk.seqQ fun Q1651 qn1651 qx1651 qr1651 => ?_
          refine gor hn ?_
          refine lenM (fun hl68 => ?_)
          refine qn1651 _ _ ?_
          obtain ⟨o70, h71, h⟩ := bindM h
          refine COk.joinR (ι := { s : Unit // o70 = Ctl.next s }) (fun s => [(4, .int a4), (20, .ptr 20 0)]) (fun s => [(20, .box (eMe x66) 74)]) (fun Q1697 qn1697 qx1697 qr1697 => ?_) (by intro s; rw [hn]; rfl) ?_
          · refine COk.blkQ fun Q1698 qn1698 qe1698 qx1698 qr1698 => ?_
            refine COk.loopQ (ι := { q : ((List Ins) × Nat) // q.1 = x66.code.drop q.2 ∧ qclaw9_ChooseMost_l3 N q.1 q.2 = some o70 }) (fun q => [(4, .int a4), (20, .ptr 20 0), (98, .sl 5 (List.map eIns x66.code)), (99, .int (x66.code.length : Int)), (100, .int (q.1.2 : Int))]) (fun q => [(20, .box (eMe x66) 74)]) (fun q => q.1.1.length) ⟨(x66.code, 0), rfl, h71⟩ [] ⟨⟨rfl, rfl, (by repeat (first | exact trivial | exact rfl | (refine And.intro ?_ ?_))), rfl, rfl, trivial⟩, ⟨rfl, trivial⟩, rfl, rfl⟩ (by intro q; rw [hn]; rfl) ?_
            rintro ⟨⟨rest_, k69⟩, hd73, h71⟩ Q1699 qn1699 qx1699 qr1699
            replace hd73 : rest_ = x66.code.drop k69 := hd73
            rcases rest_ with _ | ⟨x75, rest72⟩
            · have hlt77 := restNil hd73
              replace h71 := (qclaw9_ChooseMost_l3.eq_1 _ _).symm.trans h71
              refine COk.seqQ fun Q1700 qn1700 qx1700 qr1700 => ?_
              refine gor hn ?_
              refine qn1700 _ _ ?_
              refine COk.seqQ fun Q1701 qn1701 qx1701 qr1701 => ?_
              refine goc hn ?_
              refine bselF hlt77 ?_
              refine goe hn ?_
              refine qx1701 _ _ _ ?_
              refine qx1699 _ _ _ ?_
              refine qe1698 _ _ ?_
              refine qn1697 _ _ ?_
              obtain rfl := Option.some.inj h71
              refine EOk.done ?_
              exact ⟨⟨_, rfl⟩, [], trivial, ⟨⟨rfl, rfl, trivial⟩, ⟨rfl, trivial⟩, rfl, rfl⟩⟩
            · obtain ⟨hx76, hd2, hlt77⟩ := restCons hd73
              replace h71 := (qclaw9_ChooseMost_l3.eq_2 _ _ _ _).symm.trans h71
              refine COk.seqQ fun Q1702 qn1702 qx1702 qr1702 => ?_
              refine gor hn ?_
              refine qn1702 _ _ ?_
              refine COk.seqQ fun Q1703 qn1703 qx1703 qr1703 => ?_
              refine goc hn ?_
              refine bselT hlt77 ?_
              refine gok hn ?_
              refine qn1703 _ _ ?_
              refine COk.seqQ fun Q1704 qn1704 qx1704 qr1704 => ?_
              refine COk.blkQ fun Q1711 qn1711 qe1711 qx1711 qr1711 => ?_
              refine COk.seqQ fun Q1712 qn1712 qx1712 qr1712 => ?_
              refine gor hn ?_
              refine idxK hx76 ?_
              refine qn1712 _ _ ?_
              refine COk.seqQ fun Q1713 qn1713 qx1713 qr1713 => ?_
              obtain ⟨o80, h79, h71⟩ := bindM h71
              refine COk.joinR (ι := { s : Bool // o80 = s }) (fun s => [(4, .int a4), (20, .ptr 20 0), (98, .sl 5 (List.map eIns x66.code)), (99, .int (x66.code.length : Int)), (100, .int (k69 : Int)), (111, .bool s.1)]) (fun s => [(20, .box (eMe x66) 74)]) (fun Q1714 qn1714 qx1714 qr1714 => ?_) (by intro s; rw [hn]; rfl) ?_
              · refine gor hn ?_
                refine bselM h79 (fun hb81 h79 => ?_) (fun hb81 h79 => ?_)
                · refine bselT hb81 ?_
                  refine bselT hb81 ?_
                  refine bselT hb81 ?_
                  refine qn1714 _ _ ?_
                  obtain rfl := Option.some.inj h79
                  refine EOk.done ?_
                  exact ⟨⟨_, rfl⟩, [], trivial, ⟨⟨rfl, rfl, (by repeat (first | exact trivial | exact rfl | (refine And.intro ?_ ?_))), rfl, rfl, rfl, trivial⟩, ⟨rfl, trivial⟩, rfl, rfl⟩⟩
                · refine bselF hb81 ?_
                  refine bselF hb81 ?_
                  refine bselF hb81 ?_
                  refine qn1714 _ _ ?_
                  obtain rfl := Option.some.inj h79
                  refine EOk.done ?_
                  exact ⟨⟨_, rfl⟩, [], trivial, ⟨⟨rfl, rfl, (by repeat (first | exact trivial | exact rfl | (refine And.intro ?_ ?_))), rfl, rfl, rfl, trivial⟩, ⟨rfl, trivial⟩, rfl, rfl⟩⟩
              rintro ⟨v78, hv_⟩
              replace hv_ := hv_.symm
              subst hv_
              refine qn1713 _ _ ?_
              refine goc hn ?_
              refine bselM h71 (fun hb82 h71 => ?_) (fun hb82 h71 => ?_)
              · refine COk.seqQ fun Q1716 qn1716 qx1716 qr1716 => ?_
                refine gor hn ?_
                refine qn1716 _ _ ?_
                refine got hn ?_
                refine qr1711 _ _ ?_
                refine qr1704 _ _ ?_
                refine qr1699 _ _ ?_
                refine qr1698 _ _ ?_
                refine qr1697 _ _ ?_
                refine qr1650 _ _ ?_
                obtain rfl := Option.some.inj h71
                obtain rfl := Option.some.inj h
                exact ⟨[], _, rfl, (by repeat (first | exact trivial | exact rfl | (refine And.intro ?_ ?_))), trivial, rfl, rfl, rfl, rfl, rfl⟩
              · refine gok hn ?_
                refine qn1711 _ _ ?_
                refine qn1704 _ _ ?_
                refine gor hn ?_
                refine Or.inl (And.intro (inrK hx76 hl68) ?_)
                refine qn1699 _ _ ?_
                refine EOk.done ?_
                exact ⟨⟨(rest72, k69 + 1), hd2, h71⟩, [], by show rest72.length < rest72.length + 1; omega, ⟨⟨rfl, rfl, (by repeat (first | exact trivial | exact rfl | (refine And.intro ?_ ?_))), rfl, rfl, trivial⟩, ⟨rfl, trivial⟩, rfl, rfl⟩⟩
          rintro ⟨⟨⟩, rfl⟩
          refine qn1650 _ _ ?_
          refine COk.seqQ fun Q1717 qn1717 qx1717 qr1717 => ?_
          obtain ⟨o85, h84, h⟩ := bindM h
          refine COk.joinR (ι := { s : Bool // o85 = s }) (fun s => [(10, .bool s.1)]) (fun s => []) (fun Q1718 qn1718 qx1718 qr1718 => ?_) (by intro s; rw [hn]; rfl) ?_
          · refine gor hn ?_
            refine bselM h84 (fun hb86 h84 => ?_) (fun hb86 h84 => ?_)
            · refine bselT hb86 ?_
              refine bselT hb86 ?_
              refine bselT hb86 ?_
              refine bselT hb86 ?_
              refine qn1718 _ _ ?_
              obtain rfl := Option.some.inj h84
              refine EOk.done ?_
              exact ⟨⟨_, rfl⟩, [], trivial, ⟨⟨rfl, trivial⟩, trivial, rfl, rfl⟩⟩
            · refine bselF hb86 ?_
              refine bselF hb86 ?_
              refine bselF hb86 ?_
              refine bselF hb86 ?_
              refine qn1718 _ _ ?_
              obtain rfl := Option.some.inj h84
              refine EOk.done ?_
              exact ⟨⟨_, rfl⟩, [], trivial, ⟨⟨rfl, trivial⟩, trivial, rfl, rfl⟩⟩
          rintro ⟨v83, hv_⟩
          replace hv_ := hv_.symm
          subst hv_
          refine qn1717 _ _ ?_
          refine got hn ?_
          obtain rfl := Option.some.inj h
          exact ⟨[], _, rfl, (by repeat (first | exact trivial | exact rfl | (refine And.intro ?_ ?_))), trivial, rfl, rfl, rfl, rfl, rfl⟩
end Go.Proofs.Ytioalgofaiideaa
