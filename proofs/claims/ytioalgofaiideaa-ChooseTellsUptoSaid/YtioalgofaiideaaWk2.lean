/- Walks after the mirrors. Printed by mir.py. -/
import Derived.Test.YtioalgofaiideaaWk1
namespace Go.Proofs.Ytioalgofaiideaa
open Go.RowKit
set_option linter.unusedVariables false
/- value.Class -/
set_option maxRecDepth 100000 in
set_option maxHeartbeats 1000000 in
theorem value_Class_ok (N : Nat) (a0 : (List Ob)) (a1 : V) (r : Int) (h : value_Class N a0 a1 = some r) : Spec Try.prog 24 [] [.sl 2 (List.map eOb a0), .agg (eV a1)] (.int r) [] [] := by
  refine Spec.of tabOk Try.func24 rfl Try.ntmps24 (by kernel_rfl) rfl rfl rfl fun Γ hn => ?_
  unfold value_Class at h
  refine COk.seqQ fun Q62 qn62 qx62 qr62 => ?_
  refine gor hn ?_
  refine qn62 _ _ ?_
  refine COk.seqQ fun Q63 qn63 qx63 qr63 => ?_
  refine COk.seqQ fun Q64 qn64 qx64 qr64 => ?_
  refine gor hn ?_
  refine qn64 _ _ ?_
  refine COk.blkQ fun Q91 qn91 qe91 qx91 qr91 => ?_
  refine COk.seqQ fun Q92 qn92 qx92 qr92 => ?_
  refine gor hn ?_
  refine qn92 _ _ ?_
  refine goc hn ?_
  refine bselM h (fun hb1 h => ?_) (fun hb1 h => ?_)
  · refine COk.seqQ fun Q105 qn105 qx105 qr105 => ?_
    refine gor hn ?_
    refine qn105 _ _ ?_
    refine got hn ?_
    refine qr91 _ _ ?_
    refine qr63 _ _ ?_
    obtain rfl := Option.some.inj h
    exact ⟨[], _, rfl, (by repeat (first | exact trivial | exact rfl | (refine And.intro ?_ ?_))), trivial, rfl, rfl, rfl, rfl, rfl⟩
  · refine COk.seqQ fun Q106 qn106 qx106 qr106 => ?_
    refine COk.seqQ fun Q107 qn107 qx107 qr107 => ?_
    refine gor hn ?_
    refine qn107 _ _ ?_
    obtain ⟨o4, h3, h⟩ := bindM h
    refine COk.joinR (ι := { s : Bool // o4 = s }) (fun s => [(0, .sl 2 (List.map eOb a0)), (3, .ptr 3 0), (6, .int a1.k), (9, .bool s.1)]) (fun s => [(3, .box (eV a1) 45)]) (fun Q108 qn108 qx108 qr108 => ?_) (by intro s; rw [hn]; rfl) ?_
    · refine goc hn ?_
      refine bselM h3 (fun hb5 h3 => ?_) (fun hb5 h3 => ?_)
      · refine gok hn ?_
        refine qn108 _ _ ?_
        obtain rfl := Option.some.inj h3
        refine EOk.done ?_
        exact ⟨⟨_, rfl⟩, [], trivial, ⟨⟨(by repeat (first | exact trivial | exact rfl | (refine And.intro ?_ ?_))), rfl, rfl, rfl, trivial⟩, ⟨rfl, trivial⟩, rfl, rfl⟩⟩
      · refine gor hn ?_
        refine qn108 _ _ ?_
        obtain rfl := Option.some.inj h3
        refine EOk.done ?_
        exact ⟨⟨_, rfl⟩, [], trivial, ⟨⟨(by repeat (first | exact trivial | exact rfl | (refine And.intro ?_ ?_))), rfl, rfl, rfl, trivial⟩, ⟨rfl, trivial⟩, rfl, rfl⟩⟩
    rintro ⟨v2, hv_⟩
    replace hv_ := hv_.symm
    subst hv_
    refine qn106 _ _ ?_
    refine goc hn ?_
    refine bselM h (fun hb6 h => ?_) (fun hb6 h => ?_)
    · refine COk.seqQ fun Q113 qn113 qx113 qr113 => ?_
      refine gor hn ?_
      refine qn113 _ _ ?_
      refine got hn ?_
      refine qr91 _ _ ?_
      refine qr63 _ _ ?_
      obtain rfl := Option.some.inj h
      exact ⟨[], _, rfl, (by repeat (first | exact trivial | exact rfl | (refine And.intro ?_ ?_))), trivial, rfl, rfl, rfl, rfl, rfl⟩
    · refine COk.seqQ fun Q114 qn114 qx114 qr114 => ?_
      refine gor hn ?_
      refine qn114 _ _ ?_
      refine goc hn ?_
      refine bselM h (fun hb7 h => ?_) (fun hb7 h => ?_)
      · refine COk.seqQ fun Q116 qn116 qx116 qr116 => ?_
        refine gor hn ?_
        refine qn116 _ _ ?_
        refine got hn ?_
        refine qr91 _ _ ?_
        refine qr63 _ _ ?_
        obtain rfl := Option.some.inj h
        exact ⟨[], _, rfl, (by repeat (first | exact trivial | exact rfl | (refine And.intro ?_ ?_))), trivial, rfl, rfl, rfl, rfl, rfl⟩
      · refine gok hn ?_
        refine qn91 _ _ ?_
        refine qn63 _ _ ?_
        refine COk.seqQ fun Q117 qn117 qx117 qr117 => ?_
        refine COk.seqQ fun Q118 qn118 qx118 qr118 => ?_
        obtain ⟨o10, h9, h⟩ := bindM h
        refine COk.joinR (ι := { s : Bool // o10 = s }) (fun s => [(0, .sl 2 (List.map eOb a0)), (3, .ptr 3 0), (28, .bool s.1)]) (fun s => [(3, .box (eV a1) 45)]) (fun Q119 qn119 qx119 qr119 => ?_) (by intro s; rw [hn]; rfl) ?_
        · refine gor hn ?_
          refine bselM h9 (fun hb11 h9 => ?_) (fun hb11 h9 => ?_)
          · refine bselT hb11 ?_
            refine bselT hb11 ?_
            refine bselT hb11 ?_
            refine bselM h9 (fun hb12 h9 => ?_) (fun hb12 h9 => ?_)
            · refine bselT hb12 ?_
              refine bselT hb12 ?_
              refine bselT hb12 ?_
              refine lenM (fun hl13 => ?_)
              refine bselT hb12 ?_
              refine bselT hb12 ?_
              refine qn119 _ _ ?_
              obtain rfl := Option.some.inj h9
              refine EOk.done ?_
              exact ⟨⟨_, rfl⟩, [], trivial, ⟨⟨(by repeat (first | exact trivial | exact rfl | (refine And.intro ?_ ?_))), rfl, rfl, trivial⟩, ⟨rfl, trivial⟩, rfl, rfl⟩⟩
            · refine bselF hb12 ?_
              refine bselF hb12 ?_
              refine bselF hb12 ?_
              refine bselF hb12 ?_
              refine bselF hb12 ?_
              refine qn119 _ _ ?_
              obtain rfl := Option.some.inj h9
              refine EOk.done ?_
              exact ⟨⟨_, rfl⟩, [], trivial, ⟨⟨(by repeat (first | exact trivial | exact rfl | (refine And.intro ?_ ?_))), rfl, rfl, trivial⟩, ⟨rfl, trivial⟩, rfl, rfl⟩⟩
          · refine bselF hb11 ?_
            refine bselF hb11 ?_
            refine bselF hb11 ?_
            refine qn119 _ _ ?_
            obtain rfl := Option.some.inj h9
            refine EOk.done ?_
            exact ⟨⟨_, rfl⟩, [], trivial, ⟨⟨(by repeat (first | exact trivial | exact rfl | (refine And.intro ?_ ?_))), rfl, rfl, trivial⟩, ⟨rfl, trivial⟩, rfl, rfl⟩⟩
        rintro ⟨v8, hv_⟩
        replace hv_ := hv_.symm
        subst hv_
        refine qn118 _ _ ?_
        refine goc hn ?_
        refine bselM h (fun hb14 h => ?_) (fun hb14 h => ?_)
        · refine COk.seqQ fun Q121 qn121 qx121 qr121 => ?_
          refine gor hn ?_
          obtain ⟨x15, hx16, h⟩ := bindM h
          refine idxM hx16 ?_
          refine qn121 _ _ ?_
          refine got hn ?_
          refine qr117 _ _ ?_
          obtain rfl := Option.some.inj h
          exact ⟨[], _, rfl, (by repeat (first | exact trivial | exact rfl | (refine And.intro ?_ ?_))), trivial, rfl, rfl, rfl, rfl, rfl⟩
        · refine gok hn ?_
          refine qn117 _ _ ?_
          refine COk.seqQ fun Q122 qn122 qx122 qr122 => ?_
          refine gor hn ?_
          refine qn122 _ _ ?_
          refine got hn ?_
          obtain rfl := Option.some.inj h
          exact ⟨[], _, rfl, (by repeat (first | exact trivial | exact rfl | (refine And.intro ?_ ?_))), trivial, rfl, rfl, rfl, rfl, rfl⟩

/- qcref1.Class -/
set_option maxRecDepth 100000 in
set_option maxHeartbeats 1000000 in
theorem qcref1_Class_ok (N : Nat) (a0 : (List Ob)) (a1 : V) (r : Int) (h : qcref1_Class N a0 a1 = some r) : Spec Try.prog 25 [] [.sl 2 (List.map eOb a0), .agg (eV a1)] (.int r) [] [] := by
  refine Spec.of tabOk Try.func25 rfl Try.ntmps25 (by kernel_rfl) rfl rfl rfl fun Γ hn => ?_
  unfold qcref1_Class at h
  refine COk.seqQ fun Q13 qn13 qx13 qr13 => ?_
  refine gor hn ?_
  refine qn13 _ _ ?_
  refine COk.seqQ fun Q14 qn14 qx14 qr14 => ?_
  refine COk.seqQ fun Q15 qn15 qx15 qr15 => ?_
  obtain ⟨o3, h2, h⟩ := bindM h
  refine COk.joinR (ι := { s : Bool // o3 = s }) (fun s => [(0, .sl 2 (List.map eOb a0)), (3, .ptr 3 0), (19, .bool s.1)]) (fun s => [(3, .box (eV a1) 45)]) (fun Q16 qn16 qx16 qr16 => ?_) (by intro s; rw [hn]; rfl) ?_
  · refine gor hn ?_
    refine bselM h2 (fun hb4 h2 => ?_) (fun hb4 h2 => ?_)
    · refine bselT hb4 ?_
      refine bselT hb4 ?_
      refine bselT hb4 ?_
      refine bselM h2 (fun hb5 h2 => ?_) (fun hb5 h2 => ?_)
      · refine bselT hb5 ?_
        refine bselT hb5 ?_
        refine bselT hb5 ?_
        refine lenM (fun hl6 => ?_)
        refine bselT hb5 ?_
        refine bselT hb5 ?_
        refine qn16 _ _ ?_
        obtain rfl := Option.some.inj h2
        refine EOk.done ?_
        exact ⟨⟨_, rfl⟩, [], trivial, ⟨⟨(by repeat (first | exact trivial | exact rfl | (refine And.intro ?_ ?_))), rfl, rfl, trivial⟩, ⟨rfl, trivial⟩, rfl, rfl⟩⟩
      · refine bselF hb5 ?_
        refine bselF hb5 ?_
        refine bselF hb5 ?_
        refine bselF hb5 ?_
        refine bselF hb5 ?_
        refine qn16 _ _ ?_
        obtain rfl := Option.some.inj h2
        refine EOk.done ?_
        exact ⟨⟨_, rfl⟩, [], trivial, ⟨⟨(by repeat (first | exact trivial | exact rfl | (refine And.intro ?_ ?_))), rfl, rfl, trivial⟩, ⟨rfl, trivial⟩, rfl, rfl⟩⟩
    · refine bselF hb4 ?_
      refine bselF hb4 ?_
      refine bselF hb4 ?_
      refine qn16 _ _ ?_
      obtain rfl := Option.some.inj h2
      refine EOk.done ?_
      exact ⟨⟨_, rfl⟩, [], trivial, ⟨⟨(by repeat (first | exact trivial | exact rfl | (refine And.intro ?_ ?_))), rfl, rfl, trivial⟩, ⟨rfl, trivial⟩, rfl, rfl⟩⟩
  rintro ⟨v1, hv_⟩
  replace hv_ := hv_.symm
  subst hv_
  refine qn15 _ _ ?_
  refine goc hn ?_
  refine bselM h (fun hb7 h => ?_) (fun hb7 h => ?_)
  · refine COk.seqQ fun Q18 qn18 qx18 qr18 => ?_
    refine gor hn ?_
    obtain ⟨x8, hx9, h⟩ := bindM h
    refine idxM hx9 ?_
    refine qn18 _ _ ?_
    refine got hn ?_
    refine qr14 _ _ ?_
    obtain rfl := Option.some.inj h
    exact ⟨[], _, rfl, (by repeat (first | exact trivial | exact rfl | (refine And.intro ?_ ?_))), trivial, rfl, rfl, rfl, rfl, rfl⟩
  · refine gok hn ?_
    refine qn14 _ _ ?_
    refine COk.seqQ fun Q19 qn19 qx19 qr19 => ?_
    refine COk.seqQ fun Q20 qn20 qx20 qr20 => ?_
    obtain ⟨o12, h11, h⟩ := bindM h
    refine COk.joinR (ι := { s : Bool // o12 = s }) (fun s => [(3, .ptr 3 0), (33, .bool s.1)]) (fun s => [(3, .box (eV a1) 45)]) (fun Q21 qn21 qx21 qr21 => ?_) (by intro s; rw [hn]; rfl) ?_
    · refine gor hn ?_
      refine bselM h11 (fun hb13 h11 => ?_) (fun hb13 h11 => ?_)
      · refine bselT hb13 ?_
        refine bselT hb13 ?_
        refine bselT hb13 ?_
        refine qn21 _ _ ?_
        obtain rfl := Option.some.inj h11
        refine EOk.done ?_
        exact ⟨⟨_, rfl⟩, [], trivial, ⟨⟨rfl, rfl, trivial⟩, ⟨rfl, trivial⟩, rfl, rfl⟩⟩
      · refine bselF hb13 ?_
        refine bselF hb13 ?_
        refine bselF hb13 ?_
        refine qn21 _ _ ?_
        obtain rfl := Option.some.inj h11
        refine EOk.done ?_
        exact ⟨⟨_, rfl⟩, [], trivial, ⟨⟨rfl, rfl, trivial⟩, ⟨rfl, trivial⟩, rfl, rfl⟩⟩
    rintro ⟨v10, hv_⟩
    replace hv_ := hv_.symm
    subst hv_
    refine qn20 _ _ ?_
    refine goc hn ?_
    refine bselM h (fun hb14 h => ?_) (fun hb14 h => ?_)
    · refine COk.seqQ fun Q23 qn23 qx23 qr23 => ?_
      refine gor hn ?_
      refine qn23 _ _ ?_
      refine got hn ?_
      refine qr19 _ _ ?_
      obtain rfl := Option.some.inj h
      exact ⟨[], _, rfl, (by repeat (first | exact trivial | exact rfl | (refine And.intro ?_ ?_))), trivial, rfl, rfl, rfl, rfl, rfl⟩
    · refine gok hn ?_
      refine qn19 _ _ ?_
      refine COk.seqQ fun Q24 qn24 qx24 qr24 => ?_
      refine gor hn ?_
      refine Exists.intro (List.map eInt [(1 : Int), (2 : Int), (2 : Int), (3 : Int)]) (And.intro (by repeat (first | exact trivial | exact rfl | (refine And.intro ?_ ?_))) ?_)
      obtain ⟨x15, hx16, h⟩ := bindM h
      refine ownM hx16 ?_
      refine ldM (nthO_some hx16).2 ?_
      refine qn24 _ _ ?_
      refine got hn ?_
      obtain rfl := Option.some.inj h
      exact ⟨[], _, rfl, (by repeat (first | exact trivial | exact rfl | (refine And.intro ?_ ?_))), trivial, rfl, rfl, rfl, rfl, rfl⟩

/- value.Slot -/
set_option maxRecDepth 100000 in
set_option maxHeartbeats 1000000 in
theorem value_Slot_ok (N : Nat) (a0 : (List Ob)) (a1 : V) (a2 : Int) (r : V) (h : value_Slot N a0 a1 a2 = some r) : Spec Try.prog 26 [] [.sl 2 (List.map eOb a0), .agg (eV a1), .int a2] (.agg (eV r)) [] [] := by
  refine Spec.of tabOk Try.func26 rfl Try.ntmps26 (by kernel_rfl) rfl rfl rfl fun Γ hn => ?_
  unfold value_Slot at h
  refine COk.seqQ fun Q8 qn8 qx8 qr8 => ?_
  refine gor hn ?_
  refine qn8 _ _ ?_
  refine COk.seqQ fun Q9 qn9 qx9 qr9 => ?_
  refine COk.seqQ fun Q10 qn10 qx10 qr10 => ?_
  obtain ⟨o3, h2, h⟩ := bindM h
  refine COk.joinR (ι := { s : Bool // o3 = s }) (fun s => [(0, .sl 2 (List.map eOb a0)), (2, .int a2), (4, .ptr 4 0), (6, .ptr 6 0), (36, .bool s.1)]) (fun s => [(4, .box (eV a1) 45), (6, .box [.int (0 : Int), .int (0 : Int)] 45)]) (fun Q11 qn11 qx11 qr11 => ?_) (by intro s; rw [hn]; rfl) ?_
  · refine gor hn ?_
    refine bselM h2 (fun hb4 h2 => ?_) (fun hb4 h2 => ?_)
    · refine bselT hb4 ?_
      refine bselT hb4 ?_
      refine bselT hb4 ?_
      refine qn11 _ _ ?_
      obtain rfl := Option.some.inj h2
      refine EOk.done ?_
      exact ⟨⟨_, rfl⟩, [], trivial, ⟨⟨(by repeat (first | exact trivial | exact rfl | (refine And.intro ?_ ?_))), rfl, rfl, rfl, rfl, trivial⟩, ⟨rfl, rfl, trivial⟩, rfl, rfl⟩⟩
    · refine bselF hb4 ?_
      refine bselF hb4 ?_
      refine bselF hb4 ?_
      refine bselM h2 (fun hb5 h2 => ?_) (fun hb5 h2 => ?_)
      · refine bselT hb5 ?_
        refine bselT hb5 ?_
        refine bselT hb5 ?_
        refine bselT hb5 ?_
        refine bselT hb5 ?_
        refine qn11 _ _ ?_
        obtain rfl := Option.some.inj h2
        refine EOk.done ?_
        exact ⟨⟨_, rfl⟩, [], trivial, ⟨⟨(by repeat (first | exact trivial | exact rfl | (refine And.intro ?_ ?_))), rfl, rfl, rfl, rfl, trivial⟩, ⟨rfl, rfl, trivial⟩, rfl, rfl⟩⟩
      · refine bselF hb5 ?_
        refine bselF hb5 ?_
        refine bselF hb5 ?_
        refine lenM (fun hl6 => ?_)
        refine bselF hb5 ?_
        refine bselF hb5 ?_
        refine bselM h2 (fun hb7 h2 => ?_) (fun hb7 h2 => ?_)
        · refine bselT hb7 ?_
          refine bselT hb7 ?_
          refine qn11 _ _ ?_
          obtain rfl := Option.some.inj h2
          refine EOk.done ?_
          exact ⟨⟨_, rfl⟩, [], trivial, ⟨⟨(by repeat (first | exact trivial | exact rfl | (refine And.intro ?_ ?_))), rfl, rfl, rfl, rfl, trivial⟩, ⟨rfl, rfl, trivial⟩, rfl, rfl⟩⟩
        · refine bselF hb7 ?_
          refine bselF hb7 ?_
          refine bselM h2 (fun hb8 h2 => ?_) (fun hb8 h2 => ?_)
          · refine bselT hb8 ?_
            refine bselT hb8 ?_
            refine bselT hb8 ?_
            refine bselT hb8 ?_
            refine bselT hb8 ?_
            refine bselT hb8 ?_
            refine bselT hb8 ?_
            refine bselT hb8 ?_
            refine bselT hb8 ?_
            refine qn11 _ _ ?_
            obtain rfl := Option.some.inj h2
            refine EOk.done ?_
            exact ⟨⟨_, rfl⟩, [], trivial, ⟨⟨(by repeat (first | exact trivial | exact rfl | (refine And.intro ?_ ?_))), rfl, rfl, rfl, rfl, trivial⟩, ⟨rfl, rfl, trivial⟩, rfl, rfl⟩⟩
          · refine bselF hb8 ?_
            refine bselF hb8 ?_
            refine bselF hb8 ?_
            refine bselF hb8 ?_
            obtain ⟨x9, hx10, h2⟩ := bindM h2
            refine idxM hx10 ?_
            refine bselF hb8 ?_
            refine bselF hb8 ?_
            refine bselF hb8 ?_
            refine lenM (fun hl11 => ?_)
            refine bselF hb8 ?_
            refine bselF hb8 ?_
            refine qn11 _ _ ?_
            obtain rfl := Option.some.inj h2
            refine EOk.done ?_
            exact ⟨⟨_, rfl⟩, [], trivial, ⟨⟨(by repeat (first | exact trivial | exact rfl | (refine And.intro ?_ ?_))), rfl, rfl, rfl, rfl, trivial⟩, ⟨rfl, rfl, trivial⟩, rfl, rfl⟩⟩
  rintro ⟨v1, hv_⟩
  replace hv_ := hv_.symm
  subst hv_
  refine qn10 _ _ ?_
  refine goc hn ?_
  refine bselM h (fun hb12 h => ?_) (fun hb12 h => ?_)
  · refine COk.seqQ fun Q13 qn13 qx13 qr13 => ?_
    refine gor hn ?_
    refine qn13 _ _ ?_
    refine got hn ?_
    refine qr9 _ _ ?_
    obtain rfl := Option.some.inj h
    exact ⟨[], _, rfl, (by repeat (first | exact trivial | exact rfl | (refine And.intro ?_ ?_))), trivial, rfl, rfl, rfl, rfl, rfl⟩
  · refine gok hn ?_
    refine qn9 _ _ ?_
    refine COk.seqQ fun Q14 qn14 qx14 qr14 => ?_
    refine gor hn ?_
    obtain ⟨x13, hx14, h⟩ := bindM h
    refine idxM hx14 ?_
    obtain ⟨x15, hx16, h⟩ := bindM h
    refine idxM hx16 ?_
    refine qn14 _ _ ?_
    refine got hn ?_
    obtain rfl := Option.some.inj h
    exact ⟨[], _, rfl, (by repeat (first | exact trivial | exact rfl | (refine And.intro ?_ ?_))), trivial, rfl, rfl, rfl, rfl, rfl⟩

/- qcref1.Slot -/
set_option maxRecDepth 100000 in
set_option maxHeartbeats 1000000 in
theorem qcref1_Slot_ok (N : Nat) (a0 : (List Ob)) (a1 : V) (a2 : Int) (r : V) (h : qcref1_Slot N a0 a1 a2 = some r) : Spec Try.prog 27 [] [.sl 2 (List.map eOb a0), .agg (eV a1), .int a2] (.agg (eV r)) [] [] := by
  refine Spec.of tabOk Try.func27 rfl Try.ntmps27 (by kernel_rfl) rfl rfl rfl fun Γ hn => ?_
  unfold qcref1_Slot at h
  refine COk.seqQ fun Q181 qn181 qx181 qr181 => ?_
  refine gor hn ?_
  refine qn181 _ _ ?_
  refine COk.seqQ fun Q182 qn182 qx182 qr182 => ?_
  refine COk.seqQ fun Q183 qn183 qx183 qr183 => ?_
  obtain ⟨o3, h2, h⟩ := bindM h
  refine COk.joinR (ι := { s : Bool // o3 = s }) (fun s => [(0, .sl 2 (List.map eOb a0)), (2, .int a2), (4, .ptr 4 0), (6, .ptr 6 0), (23, .bool s.1)]) (fun s => [(4, .box (eV a1) 45), (6, .box [.int (0 : Int), .int (0 : Int)] 45)]) (fun Q184 qn184 qx184 qr184 => ?_) (by intro s; rw [hn]; rfl) ?_
  · refine gor hn ?_
    refine bselM h2 (fun hb4 h2 => ?_) (fun hb4 h2 => ?_)
    · refine bselT hb4 ?_
      refine bselT hb4 ?_
      refine bselT hb4 ?_
      refine bselM h2 (fun hb5 h2 => ?_) (fun hb5 h2 => ?_)
      · refine bselT hb5 ?_
        refine bselT hb5 ?_
        refine bselT hb5 ?_
        refine lenM (fun hl6 => ?_)
        refine bselT hb5 ?_
        refine bselT hb5 ?_
        refine qn184 _ _ ?_
        obtain rfl := Option.some.inj h2
        refine EOk.done ?_
        exact ⟨⟨_, rfl⟩, [], trivial, ⟨⟨(by repeat (first | exact trivial | exact rfl | (refine And.intro ?_ ?_))), rfl, rfl, rfl, rfl, trivial⟩, ⟨rfl, rfl, trivial⟩, rfl, rfl⟩⟩
      · refine bselF hb5 ?_
        refine bselF hb5 ?_
        refine bselF hb5 ?_
        refine bselF hb5 ?_
        refine bselF hb5 ?_
        refine qn184 _ _ ?_
        obtain rfl := Option.some.inj h2
        refine EOk.done ?_
        exact ⟨⟨_, rfl⟩, [], trivial, ⟨⟨(by repeat (first | exact trivial | exact rfl | (refine And.intro ?_ ?_))), rfl, rfl, rfl, rfl, trivial⟩, ⟨rfl, rfl, trivial⟩, rfl, rfl⟩⟩
    · refine bselF hb4 ?_
      refine bselF hb4 ?_
      refine bselF hb4 ?_
      refine qn184 _ _ ?_
      obtain rfl := Option.some.inj h2
      refine EOk.done ?_
      exact ⟨⟨_, rfl⟩, [], trivial, ⟨⟨(by repeat (first | exact trivial | exact rfl | (refine And.intro ?_ ?_))), rfl, rfl, rfl, rfl, trivial⟩, ⟨rfl, rfl, trivial⟩, rfl, rfl⟩⟩
  rintro ⟨v1, hv_⟩
  replace hv_ := hv_.symm
  subst hv_
  refine qn183 _ _ ?_
  obtain ⟨o8, h7, h⟩ := bindM h
  refine COk.joinR (ι := { s : Unit // o8 = Ctl.next s }) (fun s => [(6, .ptr 6 0)]) (fun s => [(6, .box [.int (0 : Int), .int (0 : Int)] 45)]) (fun Q301 qn301 qx301 qr301 => ?_) (by intro s; rw [hn]; rfl) ?_
  · refine goc hn ?_
    refine bselM h7 (fun hb9 h7 => ?_) (fun hb9 h7 => ?_)
    · refine COk.seqQ fun Q302 qn302 qx302 qr302 => ?_
      refine gor hn ?_
      obtain ⟨x10, hx11, h7⟩ := bindM h7
      refine idxM hx11 ?_
      refine lenM (fun hl12 => ?_)
      refine qn302 _ _ ?_
      obtain ⟨o14, h15, h7⟩ := bindM h7
      refine COk.joinR (ι := { s : Unit // o14 = Ctl.next s }) (fun s => [(6, .ptr 6 0)]) (fun s => [(6, .box [.int (0 : Int), .int (0 : Int)] 45)]) (fun Q342 qn342 qx342 qr342 => ?_) (by intro s; rw [hn]; rfl) ?_
      · refine COk.blkQ fun Q343 qn343 qe343 qx343 qr343 => ?_
        refine COk.loopQ (ι := { q : ((List V) × Nat) // q.1 = x10.slots.drop q.2 ∧ qcref1_Slot_l1 N a2 q.1 q.2 = some o14 }) (fun q => [(2, .int a2), (6, .ptr 6 0), (29, .sl 2 (List.map eV x10.slots)), (30, .int (x10.slots.length : Int)), (31, .int (q.1.2 : Int))]) (fun q => [(6, .box [.int (0 : Int), .int (0 : Int)] 45)]) (fun q => q.1.1.length) ⟨(x10.slots, 0), rfl, h15⟩ [] ⟨⟨rfl, rfl, (by repeat (first | exact trivial | exact rfl | (refine And.intro ?_ ?_))), rfl, rfl, trivial⟩, ⟨rfl, trivial⟩, rfl, rfl⟩ (by intro q; rw [hn]; rfl) ?_
        rintro ⟨⟨rest_, k13⟩, hd17, h15⟩ Q344 qn344 qx344 qr344
        replace hd17 : rest_ = x10.slots.drop k13 := hd17
        rcases rest_ with _ | ⟨x19, rest16⟩
        · have hlt21 := restNil hd17
          replace h15 := (qcref1_Slot_l1.eq_1 _ _ _).symm.trans h15
          refine COk.seqQ fun Q345 qn345 qx345 qr345 => ?_
          refine gor hn ?_
          refine qn345 _ _ ?_
          refine COk.seqQ fun Q346 qn346 qx346 qr346 => ?_
          refine goc hn ?_
          refine bselF hlt21 ?_
          refine goe hn ?_
          refine qx346 _ _ _ ?_
          refine qx344 _ _ _ ?_
          refine qe343 _ _ ?_
          refine qn342 _ _ ?_
          obtain rfl := Option.some.inj h15
          refine EOk.done ?_
          exact ⟨⟨_, rfl⟩, [], trivial, ⟨⟨rfl, trivial⟩, ⟨rfl, trivial⟩, rfl, rfl⟩⟩
        · obtain ⟨hx20, hd2, hlt21⟩ := restCons hd17
          replace h15 := (qcref1_Slot_l1.eq_2 _ _ _ _ _).symm.trans h15
          refine COk.seqQ fun Q347 qn347 qx347 qr347 => ?_
          refine gor hn ?_
          refine qn347 _ _ ?_
          refine COk.seqQ fun Q348 qn348 qx348 qr348 => ?_
          refine goc hn ?_
          refine bselT hlt21 ?_
          refine gok hn ?_
          refine qn348 _ _ ?_
          refine COk.seqQ fun Q349 qn349 qx349 qr349 => ?_
          refine COk.blkQ fun Q355 qn355 qe355 qx355 qr355 => ?_
          refine COk.seqQ fun Q356 qn356 qx356 qr356 => ?_
          refine gor hn ?_
          refine idxK hx20 ?_
          refine qn356 _ _ ?_
          refine COk.seqQ fun Q357 qn357 qx357 qr357 => ?_
          refine gor hn ?_
          refine qn357 _ _ ?_
          refine goc hn ?_
          refine bselM h15 (fun hb22 h15 => ?_) (fun hb22 h15 => ?_)
          · refine COk.seqQ fun Q359 qn359 qx359 qr359 => ?_
            refine gor hn ?_
            refine qn359 _ _ ?_
            refine got hn ?_
            refine qr355 _ _ ?_
            refine qr349 _ _ ?_
            refine qr344 _ _ ?_
            refine qr343 _ _ ?_
            refine qr342 _ _ ?_
            refine qr301 _ _ ?_
            refine qr182 _ _ ?_
            obtain rfl := Option.some.inj h15
            obtain rfl := Option.some.inj h7
            obtain rfl := Option.some.inj h
            exact ⟨[], _, rfl, (by repeat (first | exact trivial | exact rfl | (refine And.intro ?_ ?_))), trivial, rfl, rfl, rfl, rfl, rfl⟩
          · refine gok hn ?_
            refine qn355 _ _ ?_
            refine qn349 _ _ ?_
            refine gor hn ?_
            refine Or.inl (And.intro (inrK hx20 hl12) ?_)
            refine qn344 _ _ ?_
            refine EOk.done ?_
            exact ⟨⟨(rest16, k13 + 1), hd2, h15⟩, [], by show rest16.length < rest16.length + 1; omega, ⟨⟨rfl, rfl, (by repeat (first | exact trivial | exact rfl | (refine And.intro ?_ ?_))), rfl, rfl, trivial⟩, ⟨rfl, trivial⟩, rfl, rfl⟩⟩
      rintro ⟨⟨⟩, rfl⟩
      refine qn301 _ _ ?_
      obtain rfl := Option.some.inj h7
      refine EOk.done ?_
      exact ⟨⟨_, rfl⟩, [], trivial, ⟨⟨rfl, trivial⟩, ⟨rfl, trivial⟩, rfl, rfl⟩⟩
    · refine gok hn ?_
      refine qn301 _ _ ?_
      obtain rfl := Option.some.inj h7
      refine EOk.done ?_
      exact ⟨⟨_, rfl⟩, [], trivial, ⟨⟨rfl, trivial⟩, ⟨rfl, trivial⟩, rfl, rfl⟩⟩
  rintro ⟨⟨⟩, rfl⟩
  refine qn182 _ _ ?_
  refine COk.seqQ fun Q360 qn360 qx360 qr360 => ?_
  refine gor hn ?_
  refine qn360 _ _ ?_
  refine got hn ?_
  obtain rfl := Option.some.inj h
  exact ⟨[], _, rfl, (by repeat (first | exact trivial | exact rfl | (refine And.intro ?_ ?_))), trivial, rfl, rfl, rfl, rfl, rfl⟩

/- value.Bool -/
set_option maxRecDepth 100000 in
set_option maxHeartbeats 1000000 in
theorem value_Bool_ok (N : Nat) (a0 : Bool) (r : V) (h : value_Bool N a0 = some r) : Spec Try.prog 28 [] [.bool a0] (.agg (eV r)) [] [] := by
  refine Spec.of tabOk Try.func28 rfl Try.ntmps28 (by kernel_rfl) rfl rfl rfl fun Γ hn => ?_
  unfold value_Bool at h
  refine COk.seqQ fun Q7 qn7 qx7 qr7 => ?_
  refine gor hn ?_
  refine qn7 _ _ ?_
  refine COk.seqQ fun Q8 qn8 qx8 qr8 => ?_
  refine COk.seqQ fun Q9 qn9 qx9 qr9 => ?_
  refine gor hn ?_
  refine qn9 _ _ ?_
  refine goc hn ?_
  refine bselM h (fun hb1 h => ?_) (fun hb1 h => ?_)
  · refine COk.seqQ fun Q11 qn11 qx11 qr11 => ?_
    refine gor hn ?_
    refine qn11 _ _ ?_
    refine got hn ?_
    refine qr8 _ _ ?_
    obtain rfl := Option.some.inj h
    exact ⟨[], _, rfl, (by repeat (first | exact trivial | exact rfl | (refine And.intro ?_ ?_))), trivial, rfl, rfl, rfl, rfl, rfl⟩
  · refine gok hn ?_
    refine qn8 _ _ ?_
    refine COk.seqQ fun Q12 qn12 qx12 qr12 => ?_
    refine gor hn ?_
    refine qn12 _ _ ?_
    refine got hn ?_
    obtain rfl := Option.some.inj h
    exact ⟨[], _, rfl, (by repeat (first | exact trivial | exact rfl | (refine And.intro ?_ ?_))), trivial, rfl, rfl, rfl, rfl, rfl⟩

/- qcref1.Bool -/
set_option maxRecDepth 100000 in
set_option maxHeartbeats 1000000 in
theorem qcref1_Bool_ok (N : Nat) (a0 : Bool) (r : V) (h : qcref1_Bool N a0 = some r) : Spec Try.prog 29 [] [.bool a0] (.agg (eV r)) [] [] := by
  refine Spec.of tabOk Try.func29 rfl Try.ntmps29 (by kernel_rfl) rfl rfl rfl fun Γ hn => ?_
  unfold qcref1_Bool at h
  refine COk.seqQ fun Q7 qn7 qx7 qr7 => ?_
  refine gor hn ?_
  refine qn7 _ _ ?_
  refine COk.seqQ fun Q8 qn8 qx8 qr8 => ?_
  refine COk.seqQ fun Q9 qn9 qx9 qr9 => ?_
  refine gor hn ?_
  refine qn9 _ _ ?_
  refine goc hn ?_
  refine bselM h (fun hb1 h => ?_) (fun hb1 h => ?_)
  · refine COk.seqQ fun Q11 qn11 qx11 qr11 => ?_
    refine gor hn ?_
    refine qn11 _ _ ?_
    refine got hn ?_
    refine qr8 _ _ ?_
    obtain rfl := Option.some.inj h
    exact ⟨[], _, rfl, (by repeat (first | exact trivial | exact rfl | (refine And.intro ?_ ?_))), trivial, rfl, rfl, rfl, rfl, rfl⟩
  · refine gok hn ?_
    refine qn8 _ _ ?_
    refine COk.seqQ fun Q12 qn12 qx12 qr12 => ?_
    refine gor hn ?_
    refine qn12 _ _ ?_
    refine got hn ?_
    obtain rfl := Option.some.inj h
    exact ⟨[], _, rfl, (by repeat (first | exact trivial | exact rfl | (refine And.intro ?_ ?_))), trivial, rfl, rfl, rfl, rfl, rfl⟩

/- slices.Clone[[]api.Value,api.Value] -/
set_option maxRecDepth 100000 in
theorem slices_Clone_V_ok (N : Nat) (l : List V) (r : List V) (h : slices_Clone_V N l = some r) : Spec Try.prog 61 [] [.sl 2 (List.map eV l)] (.own 0) [(0, .row 2 (List.map eV r) 45)] [0] := by
  obtain ⟨hf, h⟩ := guardM h
  obtain rfl := Option.some.inj h
  refine Spec.of tabOk Try.func61 rfl Try.ntmps61 (by kernel_rfl) rfl rfl rfl fun Γ hn => ?_
  refine gos hn ?_
  refine COk.seq (COk.seq (COk.ops (goo hn 1 ?_)))
  refine OOk.gh (Gh.nil 3 rfl) ?_
  rintro ⟨b, hb⟩
  refine goo hn 1 (OOk.done ?_)
  (repeat (first | refine gos hn ?_ | refine gor hn ?_ | refine gob hn ?_ | refine goc hn ?_ | refine goe hn ?_ | refine gok hn ?_ | refine got hn ?_))
  refine bsel_b (fun hb1 => ?_) (fun hb1 => ?_)
  · have e : l = [] := by simpa using hb hb1
    subst e
    refine gos hn ?_
    refine COk.nilrow 2 5 2 45 rfl rfl rfl ?_
    (repeat (first | refine gos hn ?_ | refine gor hn ?_ | refine gob hn ?_ | refine goc hn ?_ | refine goe hn ?_ | refine gok hn ?_ | refine got hn ?_))
    exact ⟨[(0, 5)], _, rfl, rfl, ⟨rfl, trivial⟩, rfl, rfl, rfl, rfl, rfl⟩
  · (repeat (first | refine gos hn ?_ | refine gor hn ?_ | refine gob hn ?_ | refine goc hn ?_ | refine goe hn ?_ | refine gok hn ?_ | refine got hn ?_))
    refine Exists.intro [] (And.intro trivial ?_)
    refine And.intro (by have := Nat.le_of_ble_eq_true hf; simpa using this) ?_
    refine Exists.intro (List.map eV l) (And.intro (leLs_refl _) ?_)
    (repeat (first | refine gos hn ?_ | refine gor hn ?_ | refine gob hn ?_ | refine goc hn ?_ | refine goe hn ?_ | refine gok hn ?_ | refine got hn ?_))
    exact ⟨[(0, 7)], _, rfl, rfl, ⟨rfl, trivial⟩, rfl, rfl, rfl, rfl, rfl⟩

/- value.Own -/
set_option maxRecDepth 100000 in
set_option maxHeartbeats 1000000 in
theorem value_Own_ok (N : Nat) (a0 : (List Ob)) (r : (List Ob)) (h : value_Own N a0 = some r) : Spec Try.prog 31 [] [.sl 2 (List.map eOb a0)] (.own 0) [(0, .row 2 (List.map eOb r) 60)] [0] := by
  refine Spec.of tabOk Try.func31 rfl Try.ntmps31 (by kernel_rfl) rfl rfl rfl fun Γ hn => ?_
  unfold value_Own at h
  refine COk.seqQ fun Q56 qn56 qx56 qr56 => ?_
  refine gor hn ?_
  refine qn56 _ _ ?_
  refine COk.seqQ fun Q57 qn57 qx57 qr57 => ?_
  refine gor hn ?_
  refine qn57 _ _ ?_
  refine COk.seqQ fun Q58 qn58 qx58 qr58 => ?_
  refine COk.seqQ fun Q59 qn59 qx59 qr59 => ?_
  refine gor hn ?_
  refine lenM (fun hl1 => ?_)
  refine qn59 _ _ ?_
  refine COk.nilrow 3 203 2 60 rfl rfl rfl ?_
  obtain ⟨o6, h7, h⟩ := bindM h
  refine COk.joinR (ι := { s : (List Ob) // o6 = s }) (fun s => [(3, .own 203)]) (fun s => [(203, .row 2 (List.map eOb s.1) 60)]) (fun Q96 qn96 qx96 qr96 => ?_) (by intro s; rw [hn]; rfl) ?_
  · refine COk.blkQ fun Q97 qn97 qe97 qx97 qr97 => ?_
    refine COk.loopQ (ι := { q : ((List Ob) × Nat × (List Ob)) // q.1 = a0.drop q.2.1 ∧ value_Own_l1 N q.1 q.2.1 q.2.2 = some o6 }) (fun q => [(3, .own 203), (6, .sl 2 (List.map eOb a0)), (7, .int (a0.length : Int)), (8, .int (q.1.2.1 : Int))]) (fun q => [(203, .row 2 (List.map eOb q.1.2.2) 60)]) (fun q => q.1.1.length) ⟨(a0, 0, ([] : List Ob)), rfl, h7⟩ [] ⟨⟨rfl, (by repeat (first | exact trivial | exact rfl | (refine And.intro ?_ ?_))), rfl, rfl, trivial⟩, ⟨rfl, trivial⟩, rfl, rfl⟩ (by intro q; rw [hn]; rfl) ?_
    rintro ⟨⟨rest_, k2, v3⟩, hd9, h7⟩ Q98 qn98 qx98 qr98
    replace hd9 : rest_ = a0.drop k2 := hd9
    rcases rest_ with _ | ⟨x11, rest8⟩
    · have hlt13 := restNil hd9
      replace h7 := (value_Own_l1.eq_1 _ _ _).symm.trans h7
      refine COk.seqQ fun Q99 qn99 qx99 qr99 => ?_
      refine gor hn ?_
      refine qn99 _ _ ?_
      refine COk.seqQ fun Q100 qn100 qx100 qr100 => ?_
      refine goc hn ?_
      refine bselF hlt13 ?_
      refine goe hn ?_
      refine qx100 _ _ _ ?_
      refine qx98 _ _ _ ?_
      refine qe97 _ _ ?_
      refine qn96 _ _ ?_
      obtain rfl := Option.some.inj h7
      refine EOk.done ?_
      exact ⟨⟨_, rfl⟩, [], trivial, ⟨⟨rfl, trivial⟩, ⟨rfl, trivial⟩, rfl, rfl⟩⟩
    · obtain ⟨hx12, hd2, hlt13⟩ := restCons hd9
      replace h7 := (value_Own_l1.eq_2 _ _ _ _ _).symm.trans h7
      refine COk.seqQ fun Q101 qn101 qx101 qr101 => ?_
      refine gor hn ?_
      refine qn101 _ _ ?_
      refine COk.seqQ fun Q102 qn102 qx102 qr102 => ?_
      refine goc hn ?_
      refine bselT hlt13 ?_
      refine gok hn ?_
      refine qn102 _ _ ?_
      refine COk.seqQ fun Q103 qn103 qx103 qr103 => ?_
      refine COk.blkQ fun Q107 qn107 qe107 qx107 qr107 => ?_
      refine COk.seqQ fun Q108 qn108 qx108 qr108 => ?_
      refine gor hn ?_
      refine idxK hx12 ?_
      refine qn108 _ _ ?_
      refine COk.seqQ fun Q109 qn109 qx109 qr109 => ?_
      refine gor hn ?_
      obtain ⟨r14, hr15, h7⟩ := bindM h7
      show CallOk Try.prog _ _ _ _
      refine CallOk.as ((slices_Clone_V_ok N x11.slots r14 hr15).sw 0 14) (by repeat (first | exact trivial | exact rfl | (refine And.intro ?_ ?_))) trivial rfl ?_
      refine qn109 _ _ ?_
      refine gor hn ?_
      refine Exists.intro (List.map eOb [(⟨x11.cls, r14⟩ : Ob)]) (And.intro (by repeat (first | exact trivial | exact rfl | (refine And.intro ?_ ?_))) ?_)
      obtain ⟨hg16, h7⟩ := guardM h7
      refine appM (l2 := [(⟨x11.cls, r14⟩ : Ob)]) hg16 (leLs_refl _) ?_
      refine qn107 _ _ ?_
      refine qn103 _ _ ?_
      refine gor hn ?_
      refine Or.inl (And.intro (inrK hx12 hl1) ?_)
      refine qn98 _ _ ?_
      refine EOk.done ?_
      exact ⟨⟨(rest8, k2 + 1, (v3 ++ [(⟨x11.cls, r14⟩ : Ob)])), hd2, h7⟩, [(203, 19)], by show rest8.length < rest8.length + 1; omega, ⟨⟨rfl, (by repeat (first | exact trivial | exact rfl | (refine And.intro ?_ ?_))), rfl, rfl, trivial⟩, ⟨rfl, trivial⟩, rfl, rfl⟩⟩
  rintro ⟨v5, hv_⟩
  replace hv_ := hv_.symm
  subst hv_
  refine qn58 _ _ ?_
  refine COk.seqQ fun Q110 qn110 qx110 qr110 => ?_
  refine gor hn ?_
  refine qn110 _ _ ?_
  refine got hn ?_
  obtain rfl := Option.some.inj h
  exact ⟨[(0, 203)], _, rfl, (by repeat (first | exact trivial | exact rfl | (refine And.intro ?_ ?_))), ⟨rfl, trivial⟩, rfl, rfl, rfl, rfl, rfl⟩

/- qcref1.SameCode -/
set_option maxRecDepth 100000 in
set_option maxHeartbeats 1000000 in
theorem qcref1_SameCode_ok (N : Nat) (a0 : (List Ins)) (a1 : (List Ins)) (r : Bool) (h : qcref1_SameCode N a0 a1 = some r) : Spec Try.prog 60 [] [.sl 5 (List.map eIns a0), .sl 5 (List.map eIns a1)] (.bool r) [] [] := by
  refine Spec.of tabOk Try.func60 rfl Try.ntmps60 (by kernel_rfl) rfl rfl rfl fun Γ hn => ?_
  unfold qcref1_SameCode at h
  refine COk.seqQ fun Q53 qn53 qx53 qr53 => ?_
  refine gor hn ?_
  refine qn53 _ _ ?_
  refine COk.seqQ fun Q54 qn54 qx54 qr54 => ?_
  refine COk.seqQ fun Q55 qn55 qx55 qr55 => ?_
  refine gor hn ?_
  refine lenM (fun hl1 => ?_)
  refine lenM (fun hl2 => ?_)
  refine qn55 _ _ ?_
  refine goc hn ?_
  refine bselM h (fun hb3 h => ?_) (fun hb3 h => ?_)
  · refine COk.seqQ fun Q57 qn57 qx57 qr57 => ?_
    refine gor hn ?_
    refine qn57 _ _ ?_
    refine got hn ?_
    refine qr54 _ _ ?_
    obtain rfl := Option.some.inj h
    exact ⟨[], _, rfl, (by repeat (first | exact trivial | exact rfl | (refine And.intro ?_ ?_))), trivial, rfl, rfl, rfl, rfl, rfl⟩
  · refine gok hn ?_
    refine qn54 _ _ ?_
    refine COk.seqQ fun Q58 qn58 qx58 qr58 => ?_
    refine COk.seqQ fun Q59 qn59 qx59 qr59 => ?_
    refine gor hn ?_
    refine lenM (fun hl4 => ?_)
    refine qn59 _ _ ?_
    obtain ⟨o6, h7, h⟩ := bindM h
    refine COk.joinR (ι := { s : Unit // o6 = Ctl.next s }) (fun s => []) (fun s => []) (fun Q86 qn86 qx86 qr86 => ?_) (by intro s; rw [hn]; rfl) ?_
    · refine COk.blkQ fun Q87 qn87 qe87 qx87 qr87 => ?_
      refine COk.loopQ (ι := { q : ((List Ins) × Nat) // q.1 = a0.drop q.2 ∧ qcref1_SameCode_l1 N a1 q.1 q.2 = some o6 }) (fun q => [(0, .sl 5 (List.map eIns a0)), (1, .sl 5 (List.map eIns a1)), (12, .int (a0.length : Int)), (13, .int (q.1.2 : Int))]) (fun q => []) (fun q => q.1.1.length) ⟨(a0, 0), rfl, h7⟩ [] ⟨⟨(by repeat (first | exact trivial | exact rfl | (refine And.intro ?_ ?_))), (by repeat (first | exact trivial | exact rfl | (refine And.intro ?_ ?_))), rfl, rfl, trivial⟩, trivial, rfl, rfl⟩ (by intro q; rw [hn]; rfl) ?_
      rintro ⟨⟨rest_, k5⟩, hd9, h7⟩ Q88 qn88 qx88 qr88
      replace hd9 : rest_ = a0.drop k5 := hd9
      rcases rest_ with _ | ⟨x11, rest8⟩
      · have hlt13 := restNil hd9
        replace h7 := (qcref1_SameCode_l1.eq_1 _ _ _).symm.trans h7
        refine COk.seqQ fun Q89 qn89 qx89 qr89 => ?_
        refine gor hn ?_
        refine qn89 _ _ ?_
        refine COk.seqQ fun Q90 qn90 qx90 qr90 => ?_
        refine goc hn ?_
        refine bselF hlt13 ?_
        refine goe hn ?_
        refine qx90 _ _ _ ?_
        refine qx88 _ _ _ ?_
        refine qe87 _ _ ?_
        refine qn86 _ _ ?_
        obtain rfl := Option.some.inj h7
        refine EOk.done ?_
        exact ⟨⟨_, rfl⟩, [], trivial, ⟨trivial, trivial, rfl, rfl⟩⟩
      · obtain ⟨hx12, hd2, hlt13⟩ := restCons hd9
        replace h7 := (qcref1_SameCode_l1.eq_2 _ _ _ _ _).symm.trans h7
        refine COk.seqQ fun Q91 qn91 qx91 qr91 => ?_
        refine gor hn ?_
        refine qn91 _ _ ?_
        refine COk.seqQ fun Q92 qn92 qx92 qr92 => ?_
        refine goc hn ?_
        refine bselT hlt13 ?_
        refine gok hn ?_
        refine qn92 _ _ ?_
        refine COk.seqQ fun Q93 qn93 qx93 qr93 => ?_
        refine COk.blkQ fun Q99 qn99 qe99 qx99 qr99 => ?_
        refine COk.seqQ fun Q100 qn100 qx100 qr100 => ?_
        refine gor hn ?_
        refine qn100 _ _ ?_
        refine COk.seqQ fun Q101 qn101 qx101 qr101 => ?_
        refine god hn (by kernel_rfl) ?_
        refine idxK hx12 ?_
        obtain ⟨x14, hx15, h7⟩ := bindM h7
        refine idxM hx15 ?_
        refine qn101 _ _ ?_
        refine goc hn ?_
        refine bselM h7 (fun hb16 h7 => ?_) (fun hb16 h7 => ?_)
        · refine COk.seqQ fun Q103 qn103 qx103 qr103 => ?_
          refine gor hn ?_
          refine qn103 _ _ ?_
          refine got hn ?_
          refine qr99 _ _ ?_
          refine qr93 _ _ ?_
          refine qr88 _ _ ?_
          refine qr87 _ _ ?_
          refine qr86 _ _ ?_
          refine qr58 _ _ ?_
          obtain rfl := Option.some.inj h7
          obtain rfl := Option.some.inj h
          exact ⟨[], _, rfl, (by repeat (first | exact trivial | exact rfl | (refine And.intro ?_ ?_))), trivial, rfl, rfl, rfl, rfl, rfl⟩
        · refine gok hn ?_
          refine qn99 _ _ ?_
          refine qn93 _ _ ?_
          refine gor hn ?_
          refine Or.inl (And.intro (inrK hx12 hl4) ?_)
          refine qn88 _ _ ?_
          refine EOk.done ?_
          exact ⟨⟨(rest8, k5 + 1), hd2, h7⟩, [], by show rest8.length < rest8.length + 1; omega, ⟨⟨(by repeat (first | exact trivial | exact rfl | (refine And.intro ?_ ?_))), (by repeat (first | exact trivial | exact rfl | (refine And.intro ?_ ?_))), rfl, rfl, trivial⟩, trivial, rfl, rfl⟩⟩
    rintro ⟨⟨⟩, rfl⟩
    refine qn58 _ _ ?_
    refine COk.seqQ fun Q104 qn104 qx104 qr104 => ?_
    refine gor hn ?_
    refine qn104 _ _ ?_
    refine got hn ?_
    obtain rfl := Option.some.inj h
    exact ⟨[], _, rfl, (by repeat (first | exact trivial | exact rfl | (refine And.intro ?_ ?_))), trivial, rfl, rfl, rfl, rfl, rfl⟩

/- qcref1.SameWorld -/
set_option maxRecDepth 100000 in
set_option maxHeartbeats 1000000 in
theorem qcref1_SameWorld_ok (N : Nat) (a0 : Wd) (a1 : Wd) (r : Bool) (h : qcref1_SameWorld N a0 a1 = some r) : Spec Try.prog 30 [] [.agg (eWd a0), .agg (eWd a1)] (.bool r) [] [] := by
  refine Spec.of tabOk Try.func30 rfl Try.ntmps30 (by kernel_rfl) rfl rfl rfl fun Γ hn => ?_
  unfold qcref1_SameWorld at h
  refine COk.seqQ fun Q951 qn951 qx951 qr951 => ?_
  refine gor hn ?_
  refine qn951 _ _ ?_
  refine COk.seqQ fun Q952 qn952 qx952 qr952 => ?_
  refine COk.seqQ fun Q953 qn953 qx953 qr953 => ?_
  obtain ⟨o3, h2, h⟩ := bindM h
  refine COk.joinR (ι := { s : Bool // o3 = s }) (fun s => [(2, .ptr 2 0), (3, .ptr 3 0), (36, .bool s.1)]) (fun s => [(2, .box (eWd a0) 55), (3, .box (eWd a1) 55)]) (fun Q954 qn954 qx954 qr954 => ?_) (by intro s; rw [hn]; rfl) ?_
  · refine gor hn ?_
    refine bselM h2 (fun hb4 h2 => ?_) (fun hb4 h2 => ?_)
    · refine bselT hb4 ?_
      refine bselT hb4 ?_
      refine bselT hb4 ?_
      refine bselT hb4 ?_
      refine bselT hb4 ?_
      refine bselT hb4 ?_
      refine bselT hb4 ?_
      refine qn954 _ _ ?_
      obtain rfl := Option.some.inj h2
      refine EOk.done ?_
      exact ⟨⟨_, rfl⟩, [], trivial, ⟨⟨rfl, rfl, rfl, trivial⟩, ⟨rfl, rfl, trivial⟩, rfl, rfl⟩⟩
    · refine bselF hb4 ?_
      refine bselF hb4 ?_
      refine lenM (fun hl5 => ?_)
      refine bselF hb4 ?_
      refine bselF hb4 ?_
      refine bselF hb4 ?_
      refine lenM (fun hl6 => ?_)
      refine bselF hb4 ?_
      refine bselF hb4 ?_
      refine bselM h2 (fun hb7 h2 => ?_) (fun hb7 h2 => ?_)
      · refine bselT hb7 ?_
        refine bselT hb7 ?_
        refine bselT hb7 ?_
        refine bselT hb7 ?_
        refine bselT hb7 ?_
        refine bselT hb7 ?_
        refine bselT hb7 ?_
        refine qn954 _ _ ?_
        obtain rfl := Option.some.inj h2
        refine EOk.done ?_
        exact ⟨⟨_, rfl⟩, [], trivial, ⟨⟨rfl, rfl, rfl, trivial⟩, ⟨rfl, rfl, trivial⟩, rfl, rfl⟩⟩
      · refine bselF hb7 ?_
        refine bselF hb7 ?_
        refine lenM (fun hl8 => ?_)
        refine bselF hb7 ?_
        refine bselF hb7 ?_
        refine bselF hb7 ?_
        refine lenM (fun hl9 => ?_)
        refine bselF hb7 ?_
        refine bselF hb7 ?_
        refine qn954 _ _ ?_
        obtain rfl := Option.some.inj h2
        refine EOk.done ?_
        exact ⟨⟨_, rfl⟩, [], trivial, ⟨⟨rfl, rfl, rfl, trivial⟩, ⟨rfl, rfl, trivial⟩, rfl, rfl⟩⟩
  rintro ⟨v1, hv_⟩
  replace hv_ := hv_.symm
  subst hv_
  refine qn953 _ _ ?_
  refine goc hn ?_
  refine bselM h (fun hb10 h => ?_) (fun hb10 h => ?_)
  · refine COk.seqQ fun Q956 qn956 qx956 qr956 => ?_
    refine gor hn ?_
    refine qn956 _ _ ?_
    refine got hn ?_
    refine qr952 _ _ ?_
    obtain rfl := Option.some.inj h
    exact ⟨[], _, rfl, (by repeat (first | exact trivial | exact rfl | (refine And.intro ?_ ?_))), trivial, rfl, rfl, rfl, rfl, rfl⟩
  · refine gok hn ?_
    refine qn952 _ _ ?_
    refine COk.seqQ fun Q957 qn957 qx957 qr957 => ?_
    refine COk.seqQ fun Q958 qn958 qx958 qr958 => ?_
    refine gor hn ?_
    refine lenM (fun hl11 => ?_)
    refine qn958 _ _ ?_
    obtain ⟨o13, h14, h⟩ := bindM h
    refine COk.joinR (ι := { s : Unit // o13 = Ctl.next s }) (fun s => [(2, .ptr 2 0), (3, .ptr 3 0)]) (fun s => [(2, .box (eWd a0) 55), (3, .box (eWd a1) 55)]) (fun Q1293 qn1293 qx1293 qr1293 => ?_) (by intro s; rw [hn]; rfl) ?_
    · refine COk.blkQ fun Q1294 qn1294 qe1294 qx1294 qr1294 => ?_
      refine COk.loopQ (ι := { q : ((List Cl) × Nat) // q.1 = a0.classes.drop q.2 ∧ qcref1_SameWorld_l1 N a1 q.1 q.2 = some o13 }) (fun q => [(2, .ptr 2 0), (3, .ptr 3 0), (38, .sl 4 (List.map eCl a0.classes)), (39, .int (a0.classes.length : Int)), (40, .int (q.1.2 : Int))]) (fun q => [(2, .box (eWd a0) 55), (3, .box (eWd a1) 55)]) (fun q => q.1.1.length) ⟨(a0.classes, 0), rfl, h14⟩ [] ⟨⟨rfl, rfl, (by repeat (first | exact trivial | exact rfl | (refine And.intro ?_ ?_))), rfl, rfl, trivial⟩, ⟨rfl, rfl, trivial⟩, rfl, rfl⟩ (by intro q; rw [hn]; rfl) ?_
      rintro ⟨⟨rest_, k12⟩, hd16, h14⟩ Q1295 qn1295 qx1295 qr1295
      replace hd16 : rest_ = a0.classes.drop k12 := hd16
      rcases rest_ with _ | ⟨x18, rest15⟩
      · have hlt20 := restNil hd16
        replace h14 := (qcref1_SameWorld_l1.eq_1 _ _ _).symm.trans h14
        refine COk.seqQ fun Q1296 qn1296 qx1296 qr1296 => ?_
        refine gor hn ?_
        refine qn1296 _ _ ?_
        refine COk.seqQ fun Q1297 qn1297 qx1297 qr1297 => ?_
        refine goc hn ?_
        refine bselF hlt20 ?_
        refine goe hn ?_
        refine qx1297 _ _ _ ?_
        refine qx1295 _ _ _ ?_
        refine qe1294 _ _ ?_
        refine qn1293 _ _ ?_
        obtain rfl := Option.some.inj h14
        refine EOk.done ?_
        exact ⟨⟨_, rfl⟩, [], trivial, ⟨⟨rfl, rfl, trivial⟩, ⟨rfl, rfl, trivial⟩, rfl, rfl⟩⟩
      · obtain ⟨hx19, hd2, hlt20⟩ := restCons hd16
        replace h14 := (qcref1_SameWorld_l1.eq_2 _ _ _ _ _).symm.trans h14
        refine COk.seqQ fun Q1298 qn1298 qx1298 qr1298 => ?_
        refine gor hn ?_
        refine qn1298 _ _ ?_
        refine COk.seqQ fun Q1299 qn1299 qx1299 qr1299 => ?_
        refine goc hn ?_
        refine bselT hlt20 ?_
        refine gok hn ?_
        refine qn1299 _ _ ?_
        refine COk.seqQ fun Q1300 qn1300 qx1300 qr1300 => ?_
        refine COk.blkQ fun Q1383 qn1383 qe1383 qx1383 qr1383 => ?_
        refine COk.seqQ fun Q1384 qn1384 qx1384 qr1384 => ?_
        refine gor hn ?_
        refine idxK hx19 ?_
        refine qn1384 _ _ ?_
        refine COk.seqQ fun Q1385 qn1385 qx1385 qr1385 => ?_
        refine gor hn ?_
        obtain ⟨x21, hx22, h14⟩ := bindM h14
        refine idxM hx22 ?_
        refine qn1385 _ _ ?_
        refine COk.seqQ fun Q1386 qn1386 qx1386 qr1386 => ?_
        refine COk.seqQ fun Q1387 qn1387 qx1387 qr1387 => ?_
        obtain ⟨o25, h24, h14⟩ := bindM h14
        refine COk.joinR (ι := { s : Bool // o25 = s }) (fun s => [(2, .ptr 2 0), (3, .ptr 3 0), (6, .ptr 6 0), (7, .ptr 7 0), (38, .sl 4 (List.map eCl a0.classes)), (39, .int (a0.classes.length : Int)), (40, .int (k12 : Int)), (77, .bool s.1)]) (fun s => [(2, .box (eWd a0) 55), (3, .box (eWd a1) 55), (6, .box (eCl x18) 71), (7, .box (eCl x21) 71)]) (fun Q1388 qn1388 qx1388 qr1388 => ?_) (by intro s; rw [hn]; rfl) ?_
        · refine COk.sub (ts2 := [(2, .ptr 2 0), (3, .ptr 3 0), (6, .ptr 6 0), (7, .ptr 7 0), (38, .sl 4 (List.map eCl a0.classes)), (39, .int (a0.classes.length : Int)), (40, .int (k12 : Int))]) (os2 := [(2, .box (eWd a0) 55), (3, .box (eWd a1) 55), (6, .box (eCl x18) 71), (7, .box (eCl x21) 71)]) [] ⟨⟨rfl, rfl, rfl, rfl, (by repeat (first | exact trivial | exact rfl | (refine And.intro ?_ ?_))), rfl, rfl, trivial⟩, ⟨rfl, rfl, rfl, rfl, trivial⟩, rfl, rfl⟩ (by rw [hn]; rfl) ?_
          refine gor hn ?_
          refine bselM h24 (fun hb26 h24 => ?_) (fun hb26 h24 => ?_)
          · refine bselT hb26 ?_
            refine bselT hb26 ?_
            refine bselT hb26 ?_
            refine bselT hb26 ?_
            refine bselT hb26 ?_
            refine qn1388 _ _ ?_
            obtain rfl := Option.some.inj h24
            refine EOk.done ?_
            exact ⟨⟨_, rfl⟩, [], trivial, ⟨⟨rfl, rfl, rfl, rfl, (by repeat (first | exact trivial | exact rfl | (refine And.intro ?_ ?_))), rfl, rfl, rfl, trivial⟩, ⟨rfl, rfl, rfl, rfl, trivial⟩, rfl, rfl⟩⟩
          · refine bselF hb26 ?_
            refine bselF hb26 ?_
            refine bselF hb26 ?_
            refine bselF hb26 ?_
            refine bselF hb26 ?_
            refine bselM h24 (fun hb27 h24 => ?_) (fun hb27 h24 => ?_)
            · refine bselT hb27 ?_
              refine bselT hb27 ?_
              refine bselT hb27 ?_
              refine bselT hb27 ?_
              refine bselT hb27 ?_
              refine qn1388 _ _ ?_
              obtain rfl := Option.some.inj h24
              refine EOk.done ?_
              exact ⟨⟨_, rfl⟩, [], trivial, ⟨⟨rfl, rfl, rfl, rfl, (by repeat (first | exact trivial | exact rfl | (refine And.intro ?_ ?_))), rfl, rfl, rfl, trivial⟩, ⟨rfl, rfl, rfl, rfl, trivial⟩, rfl, rfl⟩⟩
            · refine bselF hb27 ?_
              refine bselF hb27 ?_
              refine bselF hb27 ?_
              refine bselF hb27 ?_
              refine bselF hb27 ?_
              refine bselM h24 (fun hb28 h24 => ?_) (fun hb28 h24 => ?_)
              · refine bselT hb28 ?_
                refine bselT hb28 ?_
                refine bselT hb28 ?_
                refine bselT hb28 ?_
                refine bselT hb28 ?_
                refine bselT hb28 ?_
                refine bselT hb28 ?_
                refine qn1388 _ _ ?_
                obtain rfl := Option.some.inj h24
                refine EOk.done ?_
                exact ⟨⟨_, rfl⟩, [], trivial, ⟨⟨rfl, rfl, rfl, rfl, (by repeat (first | exact trivial | exact rfl | (refine And.intro ?_ ?_))), rfl, rfl, rfl, trivial⟩, ⟨rfl, rfl, rfl, rfl, trivial⟩, rfl, rfl⟩⟩
              · refine bselF hb28 ?_
                refine bselF hb28 ?_
                refine lenM (fun hl29 => ?_)
                refine bselF hb28 ?_
                refine bselF hb28 ?_
                refine bselF hb28 ?_
                refine lenM (fun hl30 => ?_)
                refine bselF hb28 ?_
                refine bselF hb28 ?_
                refine qn1388 _ _ ?_
                obtain rfl := Option.some.inj h24
                refine EOk.done ?_
                exact ⟨⟨_, rfl⟩, [], trivial, ⟨⟨rfl, rfl, rfl, rfl, (by repeat (first | exact trivial | exact rfl | (refine And.intro ?_ ?_))), rfl, rfl, rfl, trivial⟩, ⟨rfl, rfl, rfl, rfl, trivial⟩, rfl, rfl⟩⟩
        rintro ⟨v23, hv_⟩
        replace hv_ := hv_.symm
        subst hv_
        refine qn1387 _ _ ?_
        refine goc hn ?_
        refine bselM h14 (fun hb31 h14 => ?_) (fun hb31 h14 => ?_)
        · refine COk.seqQ fun Q1390 qn1390 qx1390 qr1390 => ?_
          refine gor hn ?_
          refine qn1390 _ _ ?_
          refine got hn ?_
          refine qr1386 _ _ ?_
          refine qr1383 _ _ ?_
          refine qr1300 _ _ ?_
          refine qr1295 _ _ ?_
          refine qr1294 _ _ ?_
          refine qr1293 _ _ ?_
          refine qr957 _ _ ?_
          obtain rfl := Option.some.inj h14
          obtain rfl := Option.some.inj h
          exact ⟨[], _, rfl, (by repeat (first | exact trivial | exact rfl | (refine And.intro ?_ ?_))), trivial, rfl, rfl, rfl, rfl, rfl⟩
        · refine gok hn ?_
          refine qn1386 _ _ ?_
          refine COk.seqQ fun Q1391 qn1391 qx1391 qr1391 => ?_
          refine gor hn ?_
          refine lenM (fun hl32 => ?_)
          refine qn1391 _ _ ?_
          obtain ⟨o34, h35, h14⟩ := bindM h14
          refine COk.joinR (ι := { s : Unit // o34 = Ctl.next s }) (fun s => [(2, .ptr 2 0), (3, .ptr 3 0), (38, .sl 4 (List.map eCl a0.classes)), (39, .int (a0.classes.length : Int)), (40, .int (k12 : Int))]) (fun s => [(2, .box (eWd a0) 55), (3, .box (eWd a1) 55)]) (fun Q1443 qn1443 qx1443 qr1443 => ?_) (by intro s; rw [hn]; rfl) ?_
          · refine COk.blkQ fun Q1444 qn1444 qe1444 qx1444 qr1444 => ?_
            refine COk.loopQ (ι := { q : ((List Me) × Nat) // q.1 = x18.methods.drop q.2 ∧ qcref1_SameWorld_l2 N x21 q.1 q.2 = some o34 }) (fun q => [(2, .ptr 2 0), (3, .ptr 3 0), (7, .ptr 7 0), (38, .sl 4 (List.map eCl a0.classes)), (39, .int (a0.classes.length : Int)), (40, .int (k12 : Int)), (79, .sl 5 (List.map eMe x18.methods)), (80, .int (x18.methods.length : Int)), (81, .int (q.1.2 : Int))]) (fun q => [(2, .box (eWd a0) 55), (3, .box (eWd a1) 55), (7, .box (eCl x21) 71)]) (fun q => q.1.1.length) ⟨(x18.methods, 0), rfl, h35⟩ [] ⟨⟨rfl, rfl, rfl, (by repeat (first | exact trivial | exact rfl | (refine And.intro ?_ ?_))), rfl, rfl, (by repeat (first | exact trivial | exact rfl | (refine And.intro ?_ ?_))), rfl, rfl, trivial⟩, ⟨rfl, rfl, rfl, trivial⟩, rfl, rfl⟩ (by intro q; rw [hn]; rfl) ?_
            rintro ⟨⟨rest_, k33⟩, hd37, h35⟩ Q1445 qn1445 qx1445 qr1445
            replace hd37 : rest_ = x18.methods.drop k33 := hd37
            rcases rest_ with _ | ⟨x39, rest36⟩
            · have hlt41 := restNil hd37
              replace h35 := (qcref1_SameWorld_l2.eq_1 _ _ _).symm.trans h35
              refine COk.seqQ fun Q1446 qn1446 qx1446 qr1446 => ?_
              refine gor hn ?_
              refine qn1446 _ _ ?_
              refine COk.seqQ fun Q1447 qn1447 qx1447 qr1447 => ?_
              refine goc hn ?_
              refine bselF hlt41 ?_
              refine goe hn ?_
              refine qx1447 _ _ _ ?_
              refine qx1445 _ _ _ ?_
              refine qe1444 _ _ ?_
              refine qn1443 _ _ ?_
              obtain rfl := Option.some.inj h35
              refine EOk.done ?_
              exact ⟨⟨_, rfl⟩, [], trivial, ⟨⟨rfl, rfl, (by repeat (first | exact trivial | exact rfl | (refine And.intro ?_ ?_))), rfl, rfl, trivial⟩, ⟨rfl, rfl, trivial⟩, rfl, rfl⟩⟩
            · obtain ⟨hx40, hd2, hlt41⟩ := restCons hd37
              replace h35 := (qcref1_SameWorld_l2.eq_2 _ _ _ _ _).symm.trans h35
              refine COk.seqQ fun Q1448 qn1448 qx1448 qr1448 => ?_
              refine gor hn ?_
              refine qn1448 _ _ ?_
              refine COk.seqQ fun Q1449 qn1449 qx1449 qr1449 => ?_
              refine goc hn ?_
              refine bselT hlt41 ?_
              refine gok hn ?_
              refine qn1449 _ _ ?_
              refine COk.seqQ fun Q1450 qn1450 qx1450 qr1450 => ?_
              refine COk.blkQ fun Q1458 qn1458 qe1458 qx1458 qr1458 => ?_
              refine COk.seqQ fun Q1459 qn1459 qx1459 qr1459 => ?_
              refine gor hn ?_
              refine idxK hx40 ?_
              refine qn1459 _ _ ?_
              refine COk.seqQ fun Q1460 qn1460 qx1460 qr1460 => ?_
              refine gor hn ?_
              obtain ⟨x42, hx43, h35⟩ := bindM h35
              refine idxM hx43 ?_
              refine qn1460 _ _ ?_
              refine COk.seqQ fun Q1461 qn1461 qx1461 qr1461 => ?_
              obtain ⟨o46, h45, h35⟩ := bindM h35
              refine COk.joinR (ι := { s : Bool // o46 = s }) (fun s => [(2, .ptr 2 0), (3, .ptr 3 0), (7, .ptr 7 0), (38, .sl 4 (List.map eCl a0.classes)), (39, .int (a0.classes.length : Int)), (40, .int (k12 : Int)), (79, .sl 5 (List.map eMe x18.methods)), (80, .int (x18.methods.length : Int)), (81, .int (k33 : Int)), (124, .bool s.1)]) (fun s => [(2, .box (eWd a0) 55), (3, .box (eWd a1) 55), (7, .box (eCl x21) 71)]) (fun Q1462 qn1462 qx1462 qr1462 => ?_) (by intro s; rw [hn]; rfl) ?_
              · refine COk.sub (ts2 := [(2, .ptr 2 0), (3, .ptr 3 0), (7, .ptr 7 0), (9, .ptr 9 0), (10, .ptr 10 0), (38, .sl 4 (List.map eCl a0.classes)), (39, .int (a0.classes.length : Int)), (40, .int (k12 : Int)), (79, .sl 5 (List.map eMe x18.methods)), (80, .int (x18.methods.length : Int)), (81, .int (k33 : Int))]) (os2 := [(2, .box (eWd a0) 55), (3, .box (eWd a1) 55), (7, .box (eCl x21) 71), (9, .box (eMe x39) 74), (10, .box (eMe x42) 74)]) [] ⟨⟨rfl, rfl, rfl, rfl, rfl, (by repeat (first | exact trivial | exact rfl | (refine And.intro ?_ ?_))), rfl, rfl, (by repeat (first | exact trivial | exact rfl | (refine And.intro ?_ ?_))), rfl, rfl, trivial⟩, ⟨rfl, rfl, rfl, rfl, rfl, trivial⟩, rfl, rfl⟩ (by rw [hn]; rfl) ?_
                refine gor hn ?_
                refine bselM h45 (fun hb47 h45 => ?_) (fun hb47 h45 => ?_)
                · refine bselT hb47 ?_
                  refine bselT hb47 ?_
                  refine bselT hb47 ?_
                  refine bselT hb47 ?_
                  refine bselT hb47 ?_
                  refine qn1462 _ _ ?_
                  obtain rfl := Option.some.inj h45
                  refine EOk.done ?_
                  exact ⟨⟨_, rfl⟩, [], trivial, ⟨⟨rfl, rfl, rfl, (by repeat (first | exact trivial | exact rfl | (refine And.intro ?_ ?_))), rfl, rfl, (by repeat (first | exact trivial | exact rfl | (refine And.intro ?_ ?_))), rfl, rfl, rfl, trivial⟩, ⟨rfl, rfl, rfl, trivial⟩, rfl, rfl⟩⟩
                · refine bselF hb47 ?_
                  refine bselF hb47 ?_
                  refine bselF hb47 ?_
                  refine bselF hb47 ?_
                  refine bselF hb47 ?_
                  refine bselM h45 (fun hb48 h45 => ?_) (fun hb48 h45 => ?_)
                  · refine bselT hb48 ?_
                    refine bselT hb48 ?_
                    refine bselT hb48 ?_
                    refine bselT hb48 ?_
                    refine bselT hb48 ?_
                    refine qn1462 _ _ ?_
                    obtain rfl := Option.some.inj h45
                    refine EOk.done ?_
                    exact ⟨⟨_, rfl⟩, [], trivial, ⟨⟨rfl, rfl, rfl, (by repeat (first | exact trivial | exact rfl | (refine And.intro ?_ ?_))), rfl, rfl, (by repeat (first | exact trivial | exact rfl | (refine And.intro ?_ ?_))), rfl, rfl, rfl, trivial⟩, ⟨rfl, rfl, rfl, trivial⟩, rfl, rfl⟩⟩
                  · refine bselF hb48 ?_
                    refine bselF hb48 ?_
                    refine bselF hb48 ?_
                    refine bselF hb48 ?_
                    refine bselF hb48 ?_
                    refine bselM h45 (fun hb49 h45 => ?_) (fun hb49 h45 => ?_)
                    · refine bselT hb49 ?_
                      refine bselT hb49 ?_
                      refine bselT hb49 ?_
                      refine bselT hb49 ?_
                      refine bselT hb49 ?_
                      refine qn1462 _ _ ?_
                      obtain rfl := Option.some.inj h45
                      refine EOk.done ?_
                      exact ⟨⟨_, rfl⟩, [], trivial, ⟨⟨rfl, rfl, rfl, (by repeat (first | exact trivial | exact rfl | (refine And.intro ?_ ?_))), rfl, rfl, (by repeat (first | exact trivial | exact rfl | (refine And.intro ?_ ?_))), rfl, rfl, rfl, trivial⟩, ⟨rfl, rfl, rfl, trivial⟩, rfl, rfl⟩⟩
                    · refine bselF hb49 ?_
                      refine bselF hb49 ?_
                      refine bselF hb49 ?_
                      refine bselF hb49 ?_
                      refine bselF hb49 ?_
                      refine bselM h45 (fun hb50 h45 => ?_) (fun hb50 h45 => ?_)
                      · refine bselT hb50 ?_
                        refine bselT hb50 ?_
                        refine bselT hb50 ?_
                        refine bselT hb50 ?_
                        refine bselT hb50 ?_
                        refine bselT hb50 ?_
                        refine qn1462 _ _ ?_
                        obtain rfl := Option.some.inj h45
                        refine EOk.done ?_
                        exact ⟨⟨_, rfl⟩, [], trivial, ⟨⟨rfl, rfl, rfl, (by repeat (first | exact trivial | exact rfl | (refine And.intro ?_ ?_))), rfl, rfl, (by repeat (first | exact trivial | exact rfl | (refine And.intro ?_ ?_))), rfl, rfl, rfl, trivial⟩, ⟨rfl, rfl, rfl, trivial⟩, rfl, rfl⟩⟩
                      · refine bselF hb50 ?_
                        refine bselF hb50 ?_
                        refine bselF hb50 ?_
                        refine bselF hb50 ?_
                        obtain ⟨r51, hr52, h45⟩ := bindM h45
                        show CallOk Try.prog _ _ _ _
                        refine CallOk.as (qcref1_SameCode_ok N x39.code x42.code r51 hr52) (by repeat (first | exact trivial | exact rfl | (refine And.intro ?_ ?_))) trivial rfl ?_
                        refine bselF hb50 ?_
                        refine bselF hb50 ?_
                        refine qn1462 _ _ ?_
                        obtain rfl := Option.some.inj h45
                        refine EOk.done ?_
                        exact ⟨⟨_, rfl⟩, [], trivial, ⟨⟨rfl, rfl, rfl, (by repeat (first | exact trivial | exact rfl | (refine And.intro ?_ ?_))), rfl, rfl, (by repeat (first | exact trivial | exact rfl | (refine And.intro ?_ ?_))), rfl, rfl, rfl, trivial⟩, ⟨rfl, rfl, rfl, trivial⟩, rfl, rfl⟩⟩
              rintro ⟨v44, hv_⟩
              replace hv_ := hv_.symm
              subst hv_
              refine qn1461 _ _ ?_
              refine goc hn ?_
              refine bselM h35 (fun hb53 h35 => ?_) (fun hb53 h35 => ?_)
              · refine COk.seqQ fun Q1464 qn1464 qx1464 qr1464 => ?_
                refine gor hn ?_
                refine qn1464 _ _ ?_
                refine got hn ?_
                refine qr1458 _ _ ?_
                refine qr1450 _ _ ?_
                refine qr1445 _ _ ?_
                refine qr1444 _ _ ?_
                refine qr1443 _ _ ?_
                refine qr1383 _ _ ?_
                refine qr1300 _ _ ?_
                refine qr1295 _ _ ?_
                refine qr1294 _ _ ?_
                refine qr1293 _ _ ?_
                refine qr957 _ _ ?_
                obtain rfl := Option.some.inj h35
                obtain rfl := Option.some.inj h14
                obtain rfl := Option.some.inj h
                exact ⟨[], _, rfl, (by repeat (first | exact trivial | exact rfl | (refine And.intro ?_ ?_))), trivial, rfl, rfl, rfl, rfl, rfl⟩
              · refine gok hn ?_
                refine qn1458 _ _ ?_
                refine qn1450 _ _ ?_
                refine gor hn ?_
                refine Or.inl (And.intro (inrK hx40 hl32) ?_)
                refine qn1445 _ _ ?_
                refine EOk.done ?_
                exact ⟨⟨(rest36, k33 + 1), hd2, h35⟩, [], by show rest36.length < rest36.length + 1; omega, ⟨⟨rfl, rfl, rfl, (by repeat (first | exact trivial | exact rfl | (refine And.intro ?_ ?_))), rfl, rfl, (by repeat (first | exact trivial | exact rfl | (refine And.intro ?_ ?_))), rfl, rfl, trivial⟩, ⟨rfl, rfl, rfl, trivial⟩, rfl, rfl⟩⟩
          rintro ⟨⟨⟩, rfl⟩
          refine qn1383 _ _ ?_
          refine qn1300 _ _ ?_
          refine gor hn ?_
          refine Or.inl (And.intro (inrK hx19 hl11) ?_)
          refine qn1295 _ _ ?_
          refine EOk.done ?_
          exact ⟨⟨(rest15, k12 + 1), hd2, h14⟩, [], by show rest15.length < rest15.length + 1; omega, ⟨⟨rfl, rfl, (by repeat (first | exact trivial | exact rfl | (refine And.intro ?_ ?_))), rfl, rfl, trivial⟩, ⟨rfl, rfl, trivial⟩, rfl, rfl⟩⟩
    rintro ⟨⟨⟩, rfl⟩
    refine qn957 _ _ ?_
    refine COk.seqQ fun Q1465 qn1465 qx1465 qr1465 => ?_
    refine COk.seqQ fun Q1466 qn1466 qx1466 qr1466 => ?_
    refine gor hn ?_
    refine lenM (fun hl54 => ?_)
    refine qn1466 _ _ ?_
    obtain ⟨o56, h57, h⟩ := bindM h
    refine COk.joinR (ι := { s : Unit // o56 = Ctl.next s }) (fun s => []) (fun s => []) (fun Q1788 qn1788 qx1788 qr1788 => ?_) (by intro s; rw [hn]; rfl) ?_
    · refine COk.blkQ fun Q1789 qn1789 qe1789 qx1789 qr1789 => ?_
      refine COk.loopQ (ι := { q : ((List Ob) × Nat) // q.1 = a0.heap.drop q.2 ∧ qcref1_SameWorld_l3 N a1 q.1 q.2 = some o56 }) (fun q => [(3, .ptr 3 0), (128, .sl 2 (List.map eOb a0.heap)), (129, .int (a0.heap.length : Int)), (130, .int (q.1.2 : Int))]) (fun q => [(3, .box (eWd a1) 55)]) (fun q => q.1.1.length) ⟨(a0.heap, 0), rfl, h57⟩ [] ⟨⟨rfl, (by repeat (first | exact trivial | exact rfl | (refine And.intro ?_ ?_))), rfl, rfl, trivial⟩, ⟨rfl, trivial⟩, rfl, rfl⟩ (by intro q; rw [hn]; rfl) ?_
      rintro ⟨⟨rest_, k55⟩, hd59, h57⟩ Q1790 qn1790 qx1790 qr1790
      replace hd59 : rest_ = a0.heap.drop k55 := hd59
      rcases rest_ with _ | ⟨x61, rest58⟩
      · have hlt63 := restNil hd59
        replace h57 := (qcref1_SameWorld_l3.eq_1 _ _ _).symm.trans h57
        refine COk.seqQ fun Q1791 qn1791 qx1791 qr1791 => ?_
        refine gor hn ?_
        refine qn1791 _ _ ?_
        refine COk.seqQ fun Q1792 qn1792 qx1792 qr1792 => ?_
        refine goc hn ?_
        refine bselF hlt63 ?_
        refine goe hn ?_
        refine qx1792 _ _ _ ?_
        refine qx1790 _ _ _ ?_
        refine qe1789 _ _ ?_
        refine qn1788 _ _ ?_
        obtain rfl := Option.some.inj h57
        refine EOk.done ?_
        exact ⟨⟨_, rfl⟩, [], trivial, ⟨trivial, trivial, rfl, rfl⟩⟩
      · obtain ⟨hx62, hd2, hlt63⟩ := restCons hd59
        replace h57 := (qcref1_SameWorld_l3.eq_2 _ _ _ _ _).symm.trans h57
        refine COk.seqQ fun Q1793 qn1793 qx1793 qr1793 => ?_
        refine gor hn ?_
        refine qn1793 _ _ ?_
        refine COk.seqQ fun Q1794 qn1794 qx1794 qr1794 => ?_
        refine goc hn ?_
        refine bselT hlt63 ?_
        refine gok hn ?_
        refine qn1794 _ _ ?_
        refine COk.seqQ fun Q1795 qn1795 qx1795 qr1795 => ?_
        refine COk.blkQ fun Q1848 qn1848 qe1848 qx1848 qr1848 => ?_
        refine COk.seqQ fun Q1849 qn1849 qx1849 qr1849 => ?_
        refine gor hn ?_
        refine idxK hx62 ?_
        refine qn1849 _ _ ?_
        refine COk.seqQ fun Q1850 qn1850 qx1850 qr1850 => ?_
        refine COk.seqQ fun Q1851 qn1851 qx1851 qr1851 => ?_
        obtain ⟨o66, h65, h57⟩ := bindM h57
        refine COk.joinR (ι := { s : Bool // o66 = s }) (fun s => [(3, .ptr 3 0), (11, .int (k55 : Int)), (12, .ptr 12 0), (128, .sl 2 (List.map eOb a0.heap)), (129, .int (a0.heap.length : Int)), (130, .int (k55 : Int)), (156, .bool s.1)]) (fun s => [(3, .box (eWd a1) 55), (12, .box (eOb x61) 60)]) (fun Q1852 qn1852 qx1852 qr1852 => ?_) (by intro s; rw [hn]; rfl) ?_
        · refine COk.sub (ts2 := [(3, .ptr 3 0), (11, .int (k55 : Int)), (12, .ptr 12 0), (128, .sl 2 (List.map eOb a0.heap)), (129, .int (a0.heap.length : Int)), (130, .int (k55 : Int))]) (os2 := [(3, .box (eWd a1) 55), (12, .box (eOb x61) 60)]) [] ⟨⟨rfl, rfl, rfl, (by repeat (first | exact trivial | exact rfl | (refine And.intro ?_ ?_))), rfl, rfl, trivial⟩, ⟨rfl, rfl, trivial⟩, rfl, rfl⟩ (by rw [hn]; rfl) ?_
          refine god hn (by kernel_rfl) ?_
          obtain ⟨x67, hx68, h65⟩ := bindM h65
          refine idxM hx68 ?_
          refine bselM h65 (fun hb69 h65 => ?_) (fun hb69 h65 => ?_)
          · refine bselT hb69 ?_
            refine bselT hb69 ?_
            refine bselT hb69 ?_
            refine bselT hb69 ?_
            refine bselT hb69 ?_
            refine bselT hb69 ?_
            refine bselT hb69 ?_
            refine bselT hb69 ?_
            refine bselT hb69 ?_
            refine bselT hb69 ?_
            refine bselT hb69 ?_
            refine qn1852 _ _ ?_
            obtain rfl := Option.some.inj h65
            refine EOk.done ?_
            exact ⟨⟨_, rfl⟩, [], trivial, ⟨⟨rfl, rfl, rfl, (by repeat (first | exact trivial | exact rfl | (refine And.intro ?_ ?_))), rfl, rfl, rfl, trivial⟩, ⟨rfl, rfl, trivial⟩, rfl, rfl⟩⟩
          · refine bselF hb69 ?_
            refine bselF hb69 ?_
            refine lenM (fun hl70 => ?_)
            refine bselF hb69 ?_
            refine bselF hb69 ?_
            refine bselF hb69 ?_
            refine bselF hb69 ?_
            obtain ⟨x71, hx72, h65⟩ := bindM h65
            refine idxM hx72 ?_
            refine bselF hb69 ?_
            refine bselF hb69 ?_
            refine bselF hb69 ?_
            refine lenM (fun hl73 => ?_)
            refine bselF hb69 ?_
            refine bselF hb69 ?_
            refine qn1852 _ _ ?_
            obtain rfl := Option.some.inj h65
            refine EOk.done ?_
            exact ⟨⟨_, rfl⟩, [], trivial, ⟨⟨rfl, rfl, rfl, (by repeat (first | exact trivial | exact rfl | (refine And.intro ?_ ?_))), rfl, rfl, rfl, trivial⟩, ⟨rfl, rfl, trivial⟩, rfl, rfl⟩⟩
        rintro ⟨v64, hv_⟩
        replace hv_ := hv_.symm
        subst hv_
        refine qn1851 _ _ ?_
        refine goc hn ?_
        refine bselM h57 (fun hb74 h57 => ?_) (fun hb74 h57 => ?_)
        · refine COk.seqQ fun Q1854 qn1854 qx1854 qr1854 => ?_
          refine gor hn ?_
          refine qn1854 _ _ ?_
          refine got hn ?_
          refine qr1850 _ _ ?_
          refine qr1848 _ _ ?_
          refine qr1795 _ _ ?_
          refine qr1790 _ _ ?_
          refine qr1789 _ _ ?_
          refine qr1788 _ _ ?_
          refine qr1465 _ _ ?_
          obtain rfl := Option.some.inj h57
          obtain rfl := Option.some.inj h
          exact ⟨[], _, rfl, (by repeat (first | exact trivial | exact rfl | (refine And.intro ?_ ?_))), trivial, rfl, rfl, rfl, rfl, rfl⟩
        · refine gok hn ?_
          refine qn1850 _ _ ?_
          refine COk.seqQ fun Q1855 qn1855 qx1855 qr1855 => ?_
          refine gor hn ?_
          refine lenM (fun hl75 => ?_)
          refine qn1855 _ _ ?_
          obtain ⟨o77, h78, h57⟩ := bindM h57
          refine COk.joinR (ι := { s : Unit // o77 = Ctl.next s }) (fun s => [(3, .ptr 3 0), (128, .sl 2 (List.map eOb a0.heap)), (129, .int (a0.heap.length : Int)), (130, .int (k55 : Int))]) (fun s => [(3, .box (eWd a1) 55)]) (fun Q1882 qn1882 qx1882 qr1882 => ?_) (by intro s; rw [hn]; rfl) ?_
          · refine COk.blkQ fun Q1883 qn1883 qe1883 qx1883 qr1883 => ?_
            refine COk.loopQ (ι := { q : ((List V) × Nat) // q.1 = x61.slots.drop q.2 ∧ qcref1_SameWorld_l4 N a1 k55 q.1 q.2 = some o77 }) (fun q => [(3, .ptr 3 0), (11, .int (k55 : Int)), (12, .ptr 12 0), (128, .sl 2 (List.map eOb a0.heap)), (129, .int (a0.heap.length : Int)), (130, .int (k55 : Int)), (159, .int (x61.slots.length : Int)), (160, .int (q.1.2 : Int))]) (fun q => [(3, .box (eWd a1) 55), (12, .box (eOb x61) 60)]) (fun q => q.1.1.length) ⟨(x61.slots, 0), rfl, h78⟩ [] ⟨⟨rfl, rfl, rfl, (by repeat (first | exact trivial | exact rfl | (refine And.intro ?_ ?_))), rfl, rfl, rfl, rfl, trivial⟩, ⟨rfl, rfl, trivial⟩, rfl, rfl⟩ (by intro q; rw [hn]; rfl) ?_
            rintro ⟨⟨rest_, k76⟩, hd80, h78⟩ Q1884 qn1884 qx1884 qr1884
            replace hd80 : rest_ = x61.slots.drop k76 := hd80
            rcases rest_ with _ | ⟨x82, rest79⟩
            · have hlt84 := restNil hd80
              replace h78 := (qcref1_SameWorld_l4.eq_1 _ _ _ _).symm.trans h78
              refine COk.seqQ fun Q1885 qn1885 qx1885 qr1885 => ?_
              refine gor hn ?_
              refine qn1885 _ _ ?_
              refine COk.seqQ fun Q1886 qn1886 qx1886 qr1886 => ?_
              refine goc hn ?_
              refine bselF hlt84 ?_
              refine goe hn ?_
              refine qx1886 _ _ _ ?_
              refine qx1884 _ _ _ ?_
              refine qe1883 _ _ ?_
              refine qn1882 _ _ ?_
              obtain rfl := Option.some.inj h78
              refine EOk.done ?_
              exact ⟨⟨_, rfl⟩, [], trivial, ⟨⟨rfl, (by repeat (first | exact trivial | exact rfl | (refine And.intro ?_ ?_))), rfl, rfl, trivial⟩, ⟨rfl, trivial⟩, rfl, rfl⟩⟩
            · obtain ⟨hx83, hd2, hlt84⟩ := restCons hd80
              replace h78 := (qcref1_SameWorld_l4.eq_2 _ _ _ _ _ _).symm.trans h78
              refine COk.seqQ fun Q1887 qn1887 qx1887 qr1887 => ?_
              refine gor hn ?_
              refine qn1887 _ _ ?_
              refine COk.seqQ fun Q1888 qn1888 qx1888 qr1888 => ?_
              refine goc hn ?_
              refine bselT hlt84 ?_
              refine gok hn ?_
              refine qn1888 _ _ ?_
              refine COk.seqQ fun Q1889 qn1889 qx1889 qr1889 => ?_
              refine COk.blkQ fun Q1895 qn1895 qe1895 qx1895 qr1895 => ?_
              refine COk.seqQ fun Q1896 qn1896 qx1896 qr1896 => ?_
              refine gor hn ?_
              refine qn1896 _ _ ?_
              refine COk.seqQ fun Q1897 qn1897 qx1897 qr1897 => ?_
              refine god hn (by kernel_rfl) ?_
              refine idxK hx83 ?_
              obtain ⟨x85, hx86, h78⟩ := bindM h78
              refine idxM hx86 ?_
              obtain ⟨x87, hx88, h78⟩ := bindM h78
              refine idxM hx88 ?_
              refine qn1897 _ _ ?_
              refine goc hn ?_
              refine bselM h78 (fun hb89 h78 => ?_) (fun hb89 h78 => ?_)
              · refine COk.seqQ fun Q1899 qn1899 qx1899 qr1899 => ?_
                refine COk.sub (ts2 := []) (os2 := []) [] ⟨trivial, trivial, rfl, rfl⟩ (by rw [hn]; rfl) ?_
                refine gor hn ?_
                refine qn1899 _ _ ?_
                refine got hn ?_
                refine qr1895 _ _ ?_
                refine qr1889 _ _ ?_
                refine qr1884 _ _ ?_
                refine qr1883 _ _ ?_
                refine qr1882 _ _ ?_
                refine qr1848 _ _ ?_
                refine qr1795 _ _ ?_
                refine qr1790 _ _ ?_
                refine qr1789 _ _ ?_
                refine qr1788 _ _ ?_
                refine qr1465 _ _ ?_
                obtain rfl := Option.some.inj h78
                obtain rfl := Option.some.inj h57
                obtain rfl := Option.some.inj h
                exact ⟨[], _, rfl, (by repeat (first | exact trivial | exact rfl | (refine And.intro ?_ ?_))), trivial, rfl, rfl, rfl, rfl, rfl⟩
              · refine gok hn ?_
                refine qn1895 _ _ ?_
                refine qn1889 _ _ ?_
                refine COk.sub (ts2 := [(3, .ptr 3 0), (11, .int (k55 : Int)), (12, .ptr 12 0), (128, .sl 2 (List.map eOb a0.heap)), (129, .int (a0.heap.length : Int)), (130, .int (k55 : Int)), (159, .int (x61.slots.length : Int)), (160, .int (k76 : Int))]) (os2 := [(3, .box (eWd a1) 55), (12, .box (eOb x61) 60)]) [] ⟨⟨rfl, rfl, rfl, (by repeat (first | exact trivial | exact rfl | (refine And.intro ?_ ?_))), rfl, rfl, rfl, rfl, trivial⟩, ⟨rfl, rfl, trivial⟩, rfl, rfl⟩ (by rw [hn]; rfl) ?_
                refine gor hn ?_
                refine Or.inl (And.intro (inrK hx83 hl75) ?_)
                refine qn1884 _ _ ?_
                refine EOk.done ?_
                exact ⟨⟨(rest79, k76 + 1), hd2, h78⟩, [], by show rest79.length < rest79.length + 1; omega, ⟨⟨rfl, rfl, rfl, (by repeat (first | exact trivial | exact rfl | (refine And.intro ?_ ?_))), rfl, rfl, rfl, rfl, trivial⟩, ⟨rfl, rfl, trivial⟩, rfl, rfl⟩⟩
          rintro ⟨⟨⟩, rfl⟩
          refine qn1848 _ _ ?_
          refine qn1795 _ _ ?_
          refine gor hn ?_
          refine Or.inl (And.intro (inrK hx62 hl54) ?_)
          refine qn1790 _ _ ?_
          refine EOk.done ?_
          exact ⟨⟨(rest58, k55 + 1), hd2, h57⟩, [], by show rest58.length < rest58.length + 1; omega, ⟨⟨rfl, (by repeat (first | exact trivial | exact rfl | (refine And.intro ?_ ?_))), rfl, rfl, trivial⟩, ⟨rfl, trivial⟩, rfl, rfl⟩⟩
    rintro ⟨⟨⟩, rfl⟩
    refine qn1465 _ _ ?_
    refine COk.seqQ fun Q1900 qn1900 qx1900 qr1900 => ?_
    refine gor hn ?_
    refine qn1900 _ _ ?_
    refine got hn ?_
    obtain rfl := Option.some.inj h
    exact ⟨[], _, rfl, (by repeat (first | exact trivial | exact rfl | (refine And.intro ?_ ?_))), trivial, rfl, rfl, rfl, rfl, rfl⟩
end Go.Proofs.Ytioalgofaiideaa
