/- Walks after the mirrors. Printed by mir.py. -/
import Derived.Test.YtoceeiamcfdnlaaWk1
namespace Go.Proofs.Ytoceeiamcfdnlaa
open Go.RowKit
set_option linter.unusedVariables false
/- qcref1.Put$1 -/
set_option maxRecDepth 100000 in
set_option maxHeartbeats 1000000 in
theorem qcref1_Put_1_ok (N : Nat) (a0 : Ce) (b0 : Int) (b1 : St) (b2 : Int) (b3 : Int) (b4 : (List Ce)) (b5 : Bool) (r : ((List Ce) × Bool)) (h : qcref1_Put_1 N a0 b0 b1 b2 b3 b4 b5 = some r) : Spec Try.prog 51 [(1080, .box [.own 1081] 22), (1081, .row 6 (List.map eCe b4) 49), (1096, .box [.bool b5] 4)] [.agg (eCe a0), .fp [.int b0], .fp (eSt b1), .fp [.int b2], .fp [.int b3], .ptr 1080 0, .ptr 1096 0] (.tup []) [(1080, .box [.own 82] 22), (82, .row 6 (List.map eCe r.1) 49), (1081, .gone), (1096, .box [.bool r.2] 4)] [82] := by
  refine Spec.of tabOk Try.func51 rfl Try.ntmps51 (by kernel_rfl) rfl rfl rfl fun Γ hn => ?_
  unfold qcref1_Put_1 at h
  refine COk.reidB 1080 0 1081 400 rfl rfl rfl rfl rfl rfl rfl rfl rfl ?_
  refine COk.seqQ fun Q60 qn60 qx60 qr60 => ?_
  refine gor hn ?_
  refine qn60 _ _ ?_
  refine COk.seqQ fun Q61 qn61 qx61 qr61 => ?_
  refine COk.seqQ fun Q62 qn62 qx62 qr62 => ?_
  refine gor hn ?_
  refine qn62 _ _ ?_
  obtain ⟨o3, h2, h⟩ := bindM h
  refine COk.joinR (ι := { s : Ce // o3 = s }) (fun s => [(3, .fp [.int b2]), (4, .fp [.int b3]), (5, .ptr 1080 0), (6, .ptr 1096 0), (7, .ptr 7 0)]) (fun s => [(7, .box (eCe s.1) 49), (400, .row 6 (List.map eCe b4) 49), (1080, .box [.own 400] 22), (1081, .gone), (1096, .box [.bool b5] 4)]) (fun Q63 qn63 qx63 qr63 => ?_) (by intro s; rw [hn]; rfl) ?_
  · refine goc hn ?_
    refine bselM h2 (fun hb4 h2 => ?_) (fun hb4 h2 => ?_)
    · refine gor hn ?_
      refine qn63 _ _ ?_
      obtain rfl := Option.some.inj h2
      refine EOk.leBox 7 [.int b1.cls, .str b1.name, .int b1.pos, .int b0, .bool false, .sl 2 (List.map eLn ([] : List Ln))] rfl (by repeat (first | exact trivial | exact rfl | (refine And.intro ?_ ?_))) ?_
      refine EOk.done ?_
      exact ⟨⟨_, rfl⟩, [], trivial, ⟨⟨(by repeat (first | exact trivial | exact rfl | (refine And.intro ?_ ?_))), (by repeat (first | exact trivial | exact rfl | (refine And.intro ?_ ?_))), rfl, rfl, rfl, trivial⟩, ⟨rfl, rfl, rfl, rfl, rfl, trivial⟩, rfl, rfl⟩⟩
    · refine gok hn ?_
      refine qn63 _ _ ?_
      obtain rfl := Option.some.inj h2
      refine EOk.done ?_
      exact ⟨⟨_, rfl⟩, [], trivial, ⟨⟨(by repeat (first | exact trivial | exact rfl | (refine And.intro ?_ ?_))), (by repeat (first | exact trivial | exact rfl | (refine And.intro ?_ ?_))), rfl, rfl, rfl, trivial⟩, ⟨rfl, rfl, rfl, rfl, rfl, trivial⟩, rfl, rfl⟩⟩
  rintro ⟨v1, hv_⟩
  replace hv_ := hv_.symm
  subst hv_
  refine qn61 _ _ ?_
  refine COk.seqQ fun Q64 qn64 qx64 qr64 => ?_
  refine gor hn ?_
  refine qn64 _ _ ?_
  refine COk.seqQ fun Q65 qn65 qx65 qr65 => ?_
  refine COk.seqQ fun Q66 qn66 qx66 qr66 => ?_
  refine gor hn ?_
  refine lenM (fun hl5 => ?_)
  refine qn66 _ _ ?_
  obtain ⟨o10, h11, h⟩ := bindM h
  refine COk.joinR (ι := { s : Bool // o10 = s }) (fun s => [(3, .fp [.int b2]), (4, .fp [.int b3]), (5, .ptr 1080 0), (6, .ptr 1096 0), (7, .ptr 7 0), (8, .bool s.1)]) (fun s => [(7, .box (eCe v1) 49), (400, .row 6 (List.map eCe b4) 49), (1080, .box [.own 400] 22), (1081, .gone), (1096, .box [.bool b5] 4)]) (fun Q94 qn94 qx94 qr94 => ?_) (by intro s; rw [hn]; rfl) ?_
  · refine COk.blkQ fun Q95 qn95 qe95 qx95 qr95 => ?_
    refine COk.loopQ (ι := { q : ((List Ln) × Nat × Bool) // q.1 = v1.lines.drop q.2.1 ∧ qcref1_Put_1_l1 N b2 q.1 q.2.1 q.2.2 = some o10 }) (fun q => [(3, .fp [.int b2]), (4, .fp [.int b3]), (5, .ptr 1080 0), (6, .ptr 1096 0), (7, .ptr 7 0), (8, .bool q.1.2.2), (21, .sl 2 (List.map eLn v1.lines)), (22, .int (v1.lines.length : Int)), (23, .int (q.1.2.1 : Int))]) (fun q => [(7, .box (eCe v1) 49), (400, .row 6 (List.map eCe b4) 49), (1080, .box [.own 400] 22), (1081, .gone), (1096, .box [.bool b5] 4)]) (fun q => q.1.1.length) ⟨(v1.lines, 0, v1.many), rfl, h11⟩ [] ⟨⟨(by repeat (first | exact trivial | exact rfl | (refine And.intro ?_ ?_))), (by repeat (first | exact trivial | exact rfl | (refine And.intro ?_ ?_))), rfl, rfl, rfl, rfl, (by repeat (first | exact trivial | exact rfl | (refine And.intro ?_ ?_))), rfl, rfl, trivial⟩, ⟨rfl, rfl, rfl, rfl, rfl, trivial⟩, rfl, rfl⟩ (by intro q; rw [hn]; rfl) ?_
    rintro ⟨⟨rest_, k6, v7⟩, hd13, h11⟩ Q96 qn96 qx96 qr96
    replace hd13 : rest_ = v1.lines.drop k6 := hd13
    rcases rest_ with _ | ⟨x15, rest12⟩
    · have hlt17 := restNil hd13
      replace h11 := (qcref1_Put_1_l1.eq_1 _ _ _ _).symm.trans h11
      refine COk.seqQ fun Q97 qn97 qx97 qr97 => ?_
      refine gor hn ?_
      refine qn97 _ _ ?_
      refine COk.seqQ fun Q98 qn98 qx98 qr98 => ?_
      refine goc hn ?_
      refine bselF hlt17 ?_
      refine goe hn ?_
      refine qx98 _ _ _ ?_
      refine qx96 _ _ _ ?_
      refine qe95 _ _ ?_
      refine qn94 _ _ ?_
      obtain rfl := Option.some.inj h11
      refine EOk.done ?_
      exact ⟨⟨_, rfl⟩, [], trivial, ⟨⟨(by repeat (first | exact trivial | exact rfl | (refine And.intro ?_ ?_))), (by repeat (first | exact trivial | exact rfl | (refine And.intro ?_ ?_))), rfl, rfl, rfl, rfl, trivial⟩, ⟨rfl, rfl, rfl, rfl, rfl, trivial⟩, rfl, rfl⟩⟩
    · obtain ⟨hx16, hd2, hlt17⟩ := restCons hd13
      replace h11 := (qcref1_Put_1_l1.eq_2 _ _ _ _ _ _).symm.trans h11
      refine COk.seqQ fun Q99 qn99 qx99 qr99 => ?_
      refine gor hn ?_
      refine qn99 _ _ ?_
      refine COk.seqQ fun Q100 qn100 qx100 qr100 => ?_
      refine goc hn ?_
      refine bselT hlt17 ?_
      refine gok hn ?_
      refine qn100 _ _ ?_
      refine COk.seqQ fun Q101 qn101 qx101 qr101 => ?_
      refine COk.blkQ fun Q105 qn105 qe105 qx105 qr105 => ?_
      refine COk.seqQ fun Q106 qn106 qx106 qr106 => ?_
      refine gor hn ?_
      refine idxK hx16 ?_
      refine qn106 _ _ ?_
      obtain ⟨o20, h19, h11⟩ := bindM h11
      refine COk.joinR (ι := { s : Bool // o20 = s }) (fun s => [(3, .fp [.int b2]), (4, .fp [.int b3]), (5, .ptr 1080 0), (6, .ptr 1096 0), (7, .ptr 7 0), (8, .bool s.1), (21, .sl 2 (List.map eLn v1.lines)), (22, .int (v1.lines.length : Int)), (23, .int (k6 : Int))]) (fun s => [(7, .box (eCe v1) 49), (400, .row 6 (List.map eCe b4) 49), (1080, .box [.own 400] 22), (1081, .gone), (1096, .box [.bool b5] 4)]) (fun Q107 qn107 qx107 qr107 => ?_) (by intro s; rw [hn]; rfl) ?_
      · refine gor hn ?_
        refine bselM h19 (fun hb21 h19 => ?_) (fun hb21 h19 => ?_)
        · refine bselT hb21 ?_
          refine bselT hb21 ?_
          refine bselT hb21 ?_
          refine bselT hb21 ?_
          refine qn107 _ _ ?_
          obtain rfl := Option.some.inj h19
          refine EOk.done ?_
          exact ⟨⟨_, rfl⟩, [], trivial, ⟨⟨(by repeat (first | exact trivial | exact rfl | (refine And.intro ?_ ?_))), (by repeat (first | exact trivial | exact rfl | (refine And.intro ?_ ?_))), rfl, rfl, rfl, rfl, (by repeat (first | exact trivial | exact rfl | (refine And.intro ?_ ?_))), rfl, rfl, trivial⟩, ⟨rfl, rfl, rfl, rfl, rfl, trivial⟩, rfl, rfl⟩⟩
        · refine bselF hb21 ?_
          refine bselF hb21 ?_
          refine bselF hb21 ?_
          refine bselF hb21 ?_
          refine qn107 _ _ ?_
          obtain rfl := Option.some.inj h19
          refine EOk.done ?_
          exact ⟨⟨_, rfl⟩, [], trivial, ⟨⟨(by repeat (first | exact trivial | exact rfl | (refine And.intro ?_ ?_))), (by repeat (first | exact trivial | exact rfl | (refine And.intro ?_ ?_))), rfl, rfl, rfl, rfl, (by repeat (first | exact trivial | exact rfl | (refine And.intro ?_ ?_))), rfl, rfl, trivial⟩, ⟨rfl, rfl, rfl, rfl, rfl, trivial⟩, rfl, rfl⟩⟩
      rintro ⟨v18, hv_⟩
      replace hv_ := hv_.symm
      subst hv_
      refine qn105 _ _ ?_
      refine qn101 _ _ ?_
      refine gor hn ?_
      refine Or.inl (And.intro (inrK hx16 hl5) ?_)
      refine qn96 _ _ ?_
      refine EOk.done ?_
      exact ⟨⟨(rest12, k6 + 1, v18), hd2, h11⟩, [], by show rest12.length < rest12.length + 1; omega, ⟨⟨(by repeat (first | exact trivial | exact rfl | (refine And.intro ?_ ?_))), (by repeat (first | exact trivial | exact rfl | (refine And.intro ?_ ?_))), rfl, rfl, rfl, rfl, (by repeat (first | exact trivial | exact rfl | (refine And.intro ?_ ?_))), rfl, rfl, trivial⟩, ⟨rfl, rfl, rfl, rfl, rfl, trivial⟩, rfl, rfl⟩⟩
  rintro ⟨v9, hv_⟩
  replace hv_ := hv_.symm
  subst hv_
  refine qn65 _ _ ?_
  refine COk.seqQ fun Q108 qn108 qx108 qr108 => ?_
  refine COk.seqQ fun Q109 qn109 qx109 qr109 => ?_
  obtain ⟨o24, h23, h⟩ := bindM h
  refine COk.joinR (ι := { s : Bool // o24 = s }) (fun s => [(3, .fp [.int b2]), (4, .fp [.int b3]), (5, .ptr 1080 0), (6, .ptr 1096 0), (7, .ptr 7 0), (8, .bool v9), (42, .bool s.1)]) (fun s => [(7, .box (eCe v1) 49), (400, .row 6 (List.map eCe b4) 49), (1080, .box [.own 400] 22), (1081, .gone), (1096, .box [.bool b5] 4)]) (fun Q110 qn110 qx110 qr110 => ?_) (by intro s; rw [hn]; rfl) ?_
  · refine gor hn ?_
    refine bselM h23 (fun hb25 h23 => ?_) (fun hb25 h23 => ?_)
    · refine bselT hb25 ?_
      refine bselT hb25 ?_
      refine lenM (fun hl26 => ?_)
      refine bselT hb25 ?_
      refine bselT hb25 ?_
      refine qn110 _ _ ?_
      obtain rfl := Option.some.inj h23
      refine EOk.done ?_
      exact ⟨⟨_, rfl⟩, [], trivial, ⟨⟨(by repeat (first | exact trivial | exact rfl | (refine And.intro ?_ ?_))), (by repeat (first | exact trivial | exact rfl | (refine And.intro ?_ ?_))), rfl, rfl, rfl, rfl, rfl, trivial⟩, ⟨rfl, rfl, rfl, rfl, rfl, trivial⟩, rfl, rfl⟩⟩
    · refine bselF hb25 ?_
      refine bselF hb25 ?_
      refine bselF hb25 ?_
      refine bselF hb25 ?_
      refine qn110 _ _ ?_
      obtain rfl := Option.some.inj h23
      refine EOk.done ?_
      exact ⟨⟨_, rfl⟩, [], trivial, ⟨⟨(by repeat (first | exact trivial | exact rfl | (refine And.intro ?_ ?_))), (by repeat (first | exact trivial | exact rfl | (refine And.intro ?_ ?_))), rfl, rfl, rfl, rfl, rfl, trivial⟩, ⟨rfl, rfl, rfl, rfl, rfl, trivial⟩, rfl, rfl⟩⟩
  rintro ⟨v22, hv_⟩
  replace hv_ := hv_.symm
  subst hv_
  refine qn109 _ _ ?_
  obtain ⟨o29, h28, h⟩ := bindM h
  refine COk.joinR (ι := { s : Ce // o29 = s }) (fun s => [(5, .ptr 1080 0), (6, .ptr 1096 0), (7, .ptr 7 0)]) (fun s => [(7, .box (eCe s.1) 49), (400, .row 6 (List.map eCe b4) 49), (1080, .box [.own 400] 22), (1081, .gone), (1096, .box [.bool b5] 4)]) (fun Q115 qn115 qx115 qr115 => ?_) (by intro s; rw [hn]; rfl) ?_
  · refine goc hn ?_
    refine bselM h28 (fun hb30 h28 => ?_) (fun hb30 h28 => ?_)
    · refine gor hn ?_
      refine qn115 _ _ ?_
      obtain rfl := Option.some.inj h28
      refine EOk.leBox 7 [.int v1.site.cls, .str v1.site.name, .int v1.site.pos, .int v1.epoch, .bool true, .sl 2 (List.map eLn ([] : List Ln))] rfl (by repeat (first | exact trivial | exact rfl | (refine And.intro ?_ ?_))) ?_
      refine EOk.done ?_
      exact ⟨⟨_, rfl⟩, [], trivial, ⟨⟨rfl, rfl, rfl, trivial⟩, ⟨rfl, rfl, rfl, rfl, rfl, trivial⟩, rfl, rfl⟩⟩
    · refine COk.seqQ fun Q116 qn116 qx116 qr116 => ?_
      refine gor hn ?_
      refine qn116 _ _ ?_
      obtain ⟨o33, h32, h28⟩ := bindM h28
      refine COk.joinR (ι := { s : Ce // o33 = s }) (fun s => [(5, .ptr 1080 0), (6, .ptr 1096 0), (7, .ptr 7 0)]) (fun s => [(7, .box (eCe s.1) 49), (400, .row 6 (List.map eCe b4) 49), (1080, .box [.own 400] 22), (1081, .gone), (1096, .box [.bool b5] 4)]) (fun Q117 qn117 qx117 qr117 => ?_) (by intro s; rw [hn]; rfl) ?_
      · refine goc hn ?_
        refine bselM h32 (fun hb34 h32 => ?_) (fun hb34 h32 => ?_)
        · refine god hn (by kernel_rfl) ?_
          refine Exists.intro (List.map eLn ([] : List Ln)) (And.intro (by repeat (first | exact trivial | exact rfl | (refine And.intro ?_ ?_))) ?_)
          obtain ⟨hg35, h32⟩ := guardM h32
          refine appM (l2 := v1.lines) hg35 (leLs_refl _) ?_
          refine Exists.intro (List.map eLn [(⟨b2, b3⟩ : Ln)]) (And.intro (by repeat (first | exact trivial | exact rfl | (refine And.intro ?_ ?_))) ?_)
          obtain ⟨hg36, h32⟩ := guardM h32
          refine appM (l2 := [(⟨b2, b3⟩ : Ln)]) hg36 (leLs_refl _) ?_
          refine qn117 _ _ ?_
          obtain rfl := Option.some.inj h32
          refine EOk.fzAll 55 rfl ?_
          refine EOk.done ?_
          exact ⟨⟨_, rfl⟩, [], trivial, ⟨⟨rfl, rfl, rfl, trivial⟩, ⟨rfl, rfl, rfl, rfl, rfl, trivial⟩, rfl, rfl⟩⟩
        · refine gok hn ?_
          refine qn117 _ _ ?_
          obtain rfl := Option.some.inj h32
          refine EOk.done ?_
          exact ⟨⟨_, rfl⟩, [], trivial, ⟨⟨rfl, rfl, rfl, trivial⟩, ⟨rfl, rfl, rfl, rfl, rfl, trivial⟩, rfl, rfl⟩⟩
      rintro ⟨v31, hv_⟩
      replace hv_ := hv_.symm
      subst hv_
      refine qn115 _ _ ?_
      obtain rfl := Option.some.inj h28
      refine EOk.done ?_
      exact ⟨⟨_, rfl⟩, [], trivial, ⟨⟨rfl, rfl, rfl, trivial⟩, ⟨rfl, rfl, rfl, rfl, rfl, trivial⟩, rfl, rfl⟩⟩
  rintro ⟨v27, hv_⟩
  replace hv_ := hv_.symm
  subst hv_
  refine qn108 _ _ ?_
  refine COk.seqQ fun Q118 qn118 qx118 qr118 => ?_
  refine gor hn ?_
  refine Exists.intro (List.map eCe [v27]) (And.intro (by repeat (first | exact trivial | exact rfl | (refine And.intro ?_ ?_))) ?_)
  obtain ⟨hg37, h⟩ := guardM h
  refine appM (l2 := [v27]) hg37 (leLs_refl _) ?_
  refine qn118 _ _ ?_
  refine gor hn ?_
  obtain rfl := Option.some.inj h
  exact ⟨[(82, 60)], _, rfl, (by repeat (first | exact trivial | exact rfl | (refine And.intro ?_ ?_))), ⟨rfl, rfl, rfl, rfl, trivial⟩, rfl, rfl, rfl, rfl, rfl⟩

/- qcref1.Put -/
set_option maxRecDepth 100000 in
set_option maxHeartbeats 1000000 in
theorem qcref1_Put_ok (N : Nat) (a0 : (List Ce)) (a1 : St) (a2 : Int) (a3 : Int) (a4 : Int) (r : (List Ce)) (h : qcref1_Put N a0 a1 a2 a3 a4 = some r) : Spec Try.prog 17 [] [.sl 6 (List.map eCe a0), .agg (eSt a1), .int a2, .int a3, .int a4] (.own 0) [(0, .row 6 (List.map eCe r) 49)] [0] := by
  refine Spec.of tabOk Try.func17 rfl Try.ntmps17 (by kernel_rfl) rfl rfl rfl fun Γ hn => ?_
  unfold qcref1_Put at h
  refine COk.seqQ fun Q81 qn81 qx81 qr81 => ?_
  refine gor hn ?_
  refine qn81 _ _ ?_
  refine COk.seqQ fun Q82 qn82 qx82 qr82 => ?_
  refine gor hn ?_
  refine qn82 _ _ ?_
  refine COk.seqQ fun Q83 qn83 qx83 qr83 => ?_
  refine gor hn ?_
  refine qn83 _ _ ?_
  refine COk.seqQ fun Q84 qn84 qx84 qr84 => ?_
  refine COk.gh (Gh.fzBox 6 6 rfl rfl rfl) (fun _ => ?_)
  refine COk.gh (Gh.fzBox 7 7 rfl rfl rfl) (fun _ => ?_)
  refine COk.gh (Gh.fzBox 8 8 rfl rfl rfl) (fun _ => ?_)
  refine COk.gh (Gh.fzBox 9 9 rfl rfl rfl) (fun _ => ?_)
  refine COk.sub (ts2 := [(0, .sl 6 (List.map eCe a0)), (6, .fp (eSt a1)), (7, .fp [.int a2]), (8, .fp [.int a3]), (9, .fp [.int a4]), (11, .ptr 11 0), (12, .ptr 12 0)]) (os2 := [(11, .box [.nilsl] 22), (12, .box [.bool false] 4)]) [] ⟨⟨(by repeat (first | exact trivial | exact rfl | (refine And.intro ?_ ?_))), (by repeat (first | exact trivial | exact rfl | (refine And.intro ?_ ?_))), (by repeat (first | exact trivial | exact rfl | (refine And.intro ?_ ?_))), (by repeat (first | exact trivial | exact rfl | (refine And.intro ?_ ?_))), (by repeat (first | exact trivial | exact rfl | (refine And.intro ?_ ?_))), rfl, rfl, trivial⟩, ⟨rfl, rfl, trivial⟩, rfl, rfl⟩ (by rw [hn]; rfl) ?_
  refine gor hn ?_
  refine qn84 _ _ ?_
  refine COk.seqQ fun Q85 qn85 qx85 qr85 => ?_
  refine COk.seqQ fun Q86 qn86 qx86 qr86 => ?_
  refine gor hn ?_
  refine lenM (fun hl1 => ?_)
  refine qn86 _ _ ?_
  refine COk.nilrowB 11 0 601 6 49 rfl rfl rfl rfl rfl rfl ?_
  obtain ⟨o9, h10, h⟩ := bindM h
  refine COk.joinR (ι := { s : ((List Ce) × Bool) // o9 = s }) (fun s => [(6, .fp (eSt a1)), (7, .fp [.int a2]), (11, .ptr 11 0), (12, .ptr 12 0), (13, .fn 51 [.fp [.int a2], .fp (eSt a1), .fp [.int a3], .fp [.int a4], .ptr 11 0, .ptr 12 0])]) (fun s => [(11, .box [.own 601] 22), (12, .box [.bool s.1.2] 4), (601, .row 6 (List.map eCe s.1.1) 49)]) (fun Q139 qn139 qx139 qr139 => ?_) (by intro s; rw [hn]; rfl) ?_
  · refine COk.blkQ fun Q140 qn140 qe140 qx140 qr140 => ?_
    refine COk.loopQ (ι := { q : ((List Ce) × Nat × (List Ce) × Bool) // q.1 = a0.drop q.2.1 ∧ qcref1_Put_l1 N a1 a2 a3 a4 q.1 q.2.1 q.2.2.1 q.2.2.2 = some o9 }) (fun q => [(6, .fp (eSt a1)), (7, .fp [.int a2]), (11, .ptr 11 0), (12, .ptr 12 0), (13, .fn 51 [.fp [.int a2], .fp (eSt a1), .fp [.int a3], .fp [.int a4], .ptr 11 0, .ptr 12 0]), (17, .sl 6 (List.map eCe a0)), (18, .int (a0.length : Int)), (19, .int (q.1.2.1 : Int))]) (fun q => [(11, .box [.own 601] 22), (12, .box [.bool q.1.2.2.2] 4), (601, .row 6 (List.map eCe q.1.2.2.1) 49)]) (fun q => q.1.1.length) ⟨(a0, 0, ([] : List Ce), false), rfl, h10⟩ [] ⟨⟨(by repeat (first | exact trivial | exact rfl | (refine And.intro ?_ ?_))), (by repeat (first | exact trivial | exact rfl | (refine And.intro ?_ ?_))), rfl, rfl, (by repeat (first | exact trivial | exact rfl | (refine And.intro ?_ ?_))), (by repeat (first | exact trivial | exact rfl | (refine And.intro ?_ ?_))), rfl, rfl, trivial⟩, ⟨rfl, rfl, rfl, trivial⟩, rfl, rfl⟩ (by intro q; rw [hn]; rfl) ?_
    rintro ⟨⟨rest_, k2, v3, v4⟩, hd12, h10⟩ Q141 qn141 qx141 qr141
    replace hd12 : rest_ = a0.drop k2 := hd12
    rcases rest_ with _ | ⟨x14, rest11⟩
    · have hlt16 := restNil hd12
      replace h10 := (qcref1_Put_l1.eq_1 _ _ _ _ _ _ _ _).symm.trans h10
      refine COk.seqQ fun Q142 qn142 qx142 qr142 => ?_
      refine gor hn ?_
      refine qn142 _ _ ?_
      refine COk.seqQ fun Q143 qn143 qx143 qr143 => ?_
      refine goc hn ?_
      refine bselF hlt16 ?_
      refine goe hn ?_
      refine qx143 _ _ _ ?_
      refine qx141 _ _ _ ?_
      refine qe140 _ _ ?_
      refine qn139 _ _ ?_
      obtain rfl := Option.some.inj h10
      refine EOk.done ?_
      exact ⟨⟨_, rfl⟩, [], trivial, ⟨⟨(by repeat (first | exact trivial | exact rfl | (refine And.intro ?_ ?_))), (by repeat (first | exact trivial | exact rfl | (refine And.intro ?_ ?_))), rfl, rfl, (by repeat (first | exact trivial | exact rfl | (refine And.intro ?_ ?_))), trivial⟩, ⟨rfl, rfl, rfl, trivial⟩, rfl, rfl⟩⟩
    · obtain ⟨hx15, hd2, hlt16⟩ := restCons hd12
      replace h10 := (qcref1_Put_l1.eq_2 _ _ _ _ _ _ _ _ _ _).symm.trans h10
      refine COk.seqQ fun Q144 qn144 qx144 qr144 => ?_
      refine gor hn ?_
      refine qn144 _ _ ?_
      refine COk.seqQ fun Q145 qn145 qx145 qr145 => ?_
      refine goc hn ?_
      refine bselT hlt16 ?_
      refine gok hn ?_
      refine qn145 _ _ ?_
      refine COk.seqQ fun Q146 qn146 qx146 qr146 => ?_
      refine COk.blkQ fun Q152 qn152 qe152 qx152 qr152 => ?_
      refine COk.seqQ fun Q153 qn153 qx153 qr153 => ?_
      refine gor hn ?_
      refine idxK hx15 ?_
      refine qn153 _ _ ?_
      refine COk.seqQ fun Q154 qn154 qx154 qr154 => ?_
      obtain ⟨o19, h18, h10⟩ := bindM h10
      refine COk.joinR (ι := { s : Bool // o19 = s }) (fun s => [(6, .fp (eSt a1)), (7, .fp [.int a2]), (11, .ptr 11 0), (12, .ptr 12 0), (13, .fn 51 [.fp [.int a2], .fp (eSt a1), .fp [.int a3], .fp [.int a4], .ptr 11 0, .ptr 12 0]), (15, .ptr 15 0), (17, .sl 6 (List.map eCe a0)), (18, .int (a0.length : Int)), (19, .int (k2 : Int)), (30, .bool s.1)]) (fun s => [(11, .box [.own 601] 22), (12, .box [.bool v4] 4), (15, .box (eCe x14) 49), (601, .row 6 (List.map eCe v3) 49)]) (fun Q155 qn155 qx155 qr155 => ?_) (by intro s; rw [hn]; rfl) ?_
      · refine gor hn ?_
        refine bselM h18 (fun hb20 h18 => ?_) (fun hb20 h18 => ?_)
        · refine bselT hb20 ?_
          refine bselT hb20 ?_
          refine qn155 _ _ ?_
          obtain rfl := Option.some.inj h18
          refine EOk.done ?_
          exact ⟨⟨_, rfl⟩, [], trivial, ⟨⟨(by repeat (first | exact trivial | exact rfl | (refine And.intro ?_ ?_))), (by repeat (first | exact trivial | exact rfl | (refine And.intro ?_ ?_))), rfl, rfl, (by repeat (first | exact trivial | exact rfl | (refine And.intro ?_ ?_))), rfl, (by repeat (first | exact trivial | exact rfl | (refine And.intro ?_ ?_))), rfl, rfl, rfl, trivial⟩, ⟨rfl, rfl, rfl, rfl, trivial⟩, rfl, rfl⟩⟩
        · refine bselF hb20 ?_
          refine bselF hb20 ?_
          refine qn155 _ _ ?_
          obtain rfl := Option.some.inj h18
          refine EOk.done ?_
          exact ⟨⟨_, rfl⟩, [], trivial, ⟨⟨(by repeat (first | exact trivial | exact rfl | (refine And.intro ?_ ?_))), (by repeat (first | exact trivial | exact rfl | (refine And.intro ?_ ?_))), rfl, rfl, (by repeat (first | exact trivial | exact rfl | (refine And.intro ?_ ?_))), rfl, (by repeat (first | exact trivial | exact rfl | (refine And.intro ?_ ?_))), rfl, rfl, rfl, trivial⟩, ⟨rfl, rfl, rfl, rfl, trivial⟩, rfl, rfl⟩⟩
      rintro ⟨v17, hv_⟩
      replace hv_ := hv_.symm
      subst hv_
      refine qn154 _ _ ?_
      obtain ⟨o24, h23, h10⟩ := bindM h10
      refine COk.joinR (ι := { s : ((List Ce) × Bool) // o24 = s }) (fun s => [(6, .fp (eSt a1)), (7, .fp [.int a2]), (11, .ptr 11 0), (12, .ptr 12 0), (13, .fn 51 [.fp [.int a2], .fp (eSt a1), .fp [.int a3], .fp [.int a4], .ptr 11 0, .ptr 12 0]), (17, .sl 6 (List.map eCe a0)), (18, .int (a0.length : Int)), (19, .int (k2 : Int))]) (fun s => [(11, .box [.own 602] 22), (12, .box [.bool s.1.2] 4), (602, .row 6 (List.map eCe s.1.1) 49)]) (fun Q156 qn156 qx156 qr156 => ?_) (by intro s; rw [hn]; rfl) ?_
      · refine goc hn ?_
        refine bselM h23 (fun hb25 h23 => ?_) (fun hb25 h23 => ?_)
        · refine gor hn ?_
          obtain ⟨r26, hr27, h23⟩ := bindM h23
          show CallOk Try.prog _ _ _ _
          refine CallOk.as (((((qcref1_Put_1_ok N x14 a2 a1 a3 a4 v3 v4 r26 hr27).sw 1080 11).sw 1081 601).sw 1096 12).sw 82 602) (by repeat (first | exact trivial | exact rfl | (refine And.intro ?_ ?_))) (by repeat (first | exact trivial | exact rfl | (refine And.intro ?_ ?_))) rfl ?_
          refine qn156 _ _ ?_
          obtain rfl := Option.some.inj h23
          refine EOk.done ?_
          exact ⟨⟨_, rfl⟩, [], trivial, ⟨⟨(by repeat (first | exact trivial | exact rfl | (refine And.intro ?_ ?_))), (by repeat (first | exact trivial | exact rfl | (refine And.intro ?_ ?_))), rfl, rfl, (by repeat (first | exact trivial | exact rfl | (refine And.intro ?_ ?_))), (by repeat (first | exact trivial | exact rfl | (refine And.intro ?_ ?_))), rfl, rfl, trivial⟩, ⟨rfl, rfl, rfl, trivial⟩, rfl, rfl⟩⟩
        · refine gor hn ?_
          refine Exists.intro (List.map eCe [x14]) (And.intro (by repeat (first | exact trivial | exact rfl | (refine And.intro ?_ ?_))) ?_)
          obtain ⟨hg28, h23⟩ := guardM h23
          refine appM (l2 := [x14]) hg28 (leLs_refl _) ?_
          refine qn156 _ _ ?_
          obtain rfl := Option.some.inj h23
          refine EOk.done ?_
          exact ⟨⟨_, rfl⟩, [(602, 37)], trivial, ⟨⟨(by repeat (first | exact trivial | exact rfl | (refine And.intro ?_ ?_))), (by repeat (first | exact trivial | exact rfl | (refine And.intro ?_ ?_))), rfl, rfl, (by repeat (first | exact trivial | exact rfl | (refine And.intro ?_ ?_))), (by repeat (first | exact trivial | exact rfl | (refine And.intro ?_ ?_))), rfl, rfl, trivial⟩, ⟨rfl, rfl, rfl, trivial⟩, rfl, rfl⟩⟩
      rintro ⟨⟨v21, v22⟩, rfl⟩
      refine qn152 _ _ ?_
      refine qn146 _ _ ?_
      refine gor hn ?_
      refine Or.inl (And.intro (inrK hx15 hl1) ?_)
      refine qn141 _ _ ?_
      refine EOk.done ?_
      exact ⟨⟨(rest11, k2 + 1, v21, v22), hd2, h10⟩, [(601, 602)], by show rest11.length < rest11.length + 1; omega, ⟨⟨(by repeat (first | exact trivial | exact rfl | (refine And.intro ?_ ?_))), (by repeat (first | exact trivial | exact rfl | (refine And.intro ?_ ?_))), rfl, rfl, (by repeat (first | exact trivial | exact rfl | (refine And.intro ?_ ?_))), (by repeat (first | exact trivial | exact rfl | (refine And.intro ?_ ?_))), rfl, rfl, trivial⟩, ⟨rfl, rfl, rfl, trivial⟩, rfl, rfl⟩⟩
  rintro ⟨⟨v7, v8⟩, rfl⟩
  refine qn85 _ _ ?_
  refine COk.seqQ fun Q157 qn157 qx157 qr157 => ?_
  refine COk.seqQ fun Q158 qn158 qx158 qr158 => ?_
  refine gor hn ?_
  refine qn158 _ _ ?_
  obtain ⟨o31, h30, h⟩ := bindM h
  refine COk.joinR (ι := { s : (List Ce) // o31 = s }) (fun s => [(11, .ptr 11 0)]) (fun s => [(11, .box [.own 603] 22), (603, .row 6 (List.map eCe s.1) 49)]) (fun Q159 qn159 qx159 qr159 => ?_) (by intro s; rw [hn]; rfl) ?_
  · refine goc hn ?_
    refine bselM h30 (fun hb32 h30 => ?_) (fun hb32 h30 => ?_)
    · refine gor hn ?_
      obtain ⟨r33, hr34, h30⟩ := bindM h30
      show CallOk Try.prog _ _ _ _
      refine CallOk.as (((((qcref1_Put_1_ok N (⟨a1, a2, false, []⟩ : Ce) a2 a1 a3 a4 v7 v8 r33 hr34).sw 1080 11).sw 1081 601).sw 1096 12).sw 82 603) (by repeat (first | exact trivial | exact rfl | (refine And.intro ?_ ?_))) (by repeat (first | exact trivial | exact rfl | (refine And.intro ?_ ?_))) rfl ?_
      refine qn159 _ _ ?_
      obtain rfl := Option.some.inj h30
      refine EOk.done ?_
      exact ⟨⟨_, rfl⟩, [], trivial, ⟨⟨rfl, trivial⟩, ⟨rfl, rfl, trivial⟩, rfl, rfl⟩⟩
    · refine gok hn ?_
      refine qn159 _ _ ?_
      obtain rfl := Option.some.inj h30
      refine EOk.done ?_
      exact ⟨⟨_, rfl⟩, [(603, 601)], trivial, ⟨⟨rfl, trivial⟩, ⟨rfl, rfl, trivial⟩, rfl, rfl⟩⟩
  rintro ⟨v29, hv_⟩
  replace hv_ := hv_.symm
  subst hv_
  refine qn157 _ _ ?_
  refine COk.seqQ fun Q160 qn160 qx160 qr160 => ?_
  refine gor hn ?_
  refine qn160 _ _ ?_
  refine got hn ?_
  obtain rfl := Option.some.inj h
  exact ⟨[(0, 603)], _, rfl, (by repeat (first | exact trivial | exact rfl | (refine And.intro ?_ ?_))), ⟨rfl, trivial⟩, rfl, rfl, rfl, rfl, rfl⟩

/- qcref1.SameLines -/
set_option maxRecDepth 100000 in
set_option maxHeartbeats 1000000 in
theorem qcref1_SameLines_ok (N : Nat) (a0 : (List Ln)) (a1 : (List Ln)) (r : Bool) (h : qcref1_SameLines N a0 a1 = some r) : Spec Try.prog 48 [] [.sl 2 (List.map eLn a0), .sl 2 (List.map eLn a1)] (.bool r) [] [] := by
  refine Spec.of tabOk Try.func48 rfl Try.ntmps48 (by kernel_rfl) rfl rfl rfl fun Γ hn => ?_
  unfold qcref1_SameLines at h
  refine COk.seqQ fun Q53 qn53 qx53 qr53 => ?_
  refine gor hn ?_
  refine qn53 _ _ ?_
  refine COk.seqQ fun Q54 qn54 qx54 qr54 => ?_
  refine COk.seqQ fun Q55 qn55 qx55 qr55 => ?_
  refine gor hn ?_
  refine lenM (fun hl1 => ?_)
  refine lenM (fun hl2 => ?_)
  refine qn55 _ _ ?_
  refine goc hn ?_
  refine bselM h (fun hb3 h => ?_) (fun hb3 h => ?_)
  · refine COk.seqQ fun Q57 qn57 qx57 qr57 => ?_
    refine gor hn ?_
    refine qn57 _ _ ?_
    refine got hn ?_
    refine qr54 _ _ ?_
    obtain rfl := Option.some.inj h
    exact ⟨[], _, rfl, (by repeat (first | exact trivial | exact rfl | (refine And.intro ?_ ?_))), trivial, rfl, rfl, rfl, rfl, rfl⟩
  · refine gok hn ?_
    refine qn54 _ _ ?_
    refine COk.seqQ fun Q58 qn58 qx58 qr58 => ?_
    refine COk.seqQ fun Q59 qn59 qx59 qr59 => ?_
    refine gor hn ?_
    refine lenM (fun hl4 => ?_)
    refine qn59 _ _ ?_
    obtain ⟨o6, h7, h⟩ := bindM h
    refine COk.joinR (ι := { s : Unit // o6 = Ctl.next s }) (fun s => []) (fun s => []) (fun Q86 qn86 qx86 qr86 => ?_) (by intro s; rw [hn]; rfl) ?_
    · refine COk.blkQ fun Q87 qn87 qe87 qx87 qr87 => ?_
      refine COk.loopQ (ι := { q : ((List Ln) × Nat) // q.1 = a0.drop q.2 ∧ qcref1_SameLines_l1 N a1 q.1 q.2 = some o6 }) (fun q => [(0, .sl 2 (List.map eLn a0)), (1, .sl 2 (List.map eLn a1)), (12, .int (a0.length : Int)), (13, .int (q.1.2 : Int))]) (fun q => []) (fun q => q.1.1.length) ⟨(a0, 0), rfl, h7⟩ [] ⟨⟨(by repeat (first | exact trivial | exact rfl | (refine And.intro ?_ ?_))), (by repeat (first | exact trivial | exact rfl | (refine And.intro ?_ ?_))), rfl, rfl, trivial⟩, trivial, rfl, rfl⟩ (by intro q; rw [hn]; rfl) ?_
      rintro ⟨⟨rest_, k5⟩, hd9, h7⟩ Q88 qn88 qx88 qr88
      replace hd9 : rest_ = a0.drop k5 := hd9
      rcases rest_ with _ | ⟨x11, rest8⟩
      · have hlt13 := restNil hd9
        replace h7 := (qcref1_SameLines_l1.eq_1 _ _ _).symm.trans h7
        refine COk.seqQ fun Q89 qn89 qx89 qr89 => ?_
        refine gor hn ?_
        refine qn89 _ _ ?_
        refine COk.seqQ fun Q90 qn90 qx90 qr90 => ?_
        refine goc hn ?_
        refine bselF hlt13 ?_
        refine goe hn ?_
        refine qx90 _ _ _ ?_
        refine qx88 _ _ _ ?_
        refine qe87 _ _ ?_
        refine qn86 _ _ ?_
        obtain rfl := Option.some.inj h7
        refine EOk.done ?_
        exact ⟨⟨_, rfl⟩, [], trivial, ⟨trivial, trivial, rfl, rfl⟩⟩
      · obtain ⟨hx12, hd2, hlt13⟩ := restCons hd9
        replace h7 := (qcref1_SameLines_l1.eq_2 _ _ _ _ _).symm.trans h7
        refine COk.seqQ fun Q91 qn91 qx91 qr91 => ?_
        refine gor hn ?_
        refine qn91 _ _ ?_
        refine COk.seqQ fun Q92 qn92 qx92 qr92 => ?_
        refine goc hn ?_
        refine bselT hlt13 ?_
        refine gok hn ?_
        refine qn92 _ _ ?_
        refine COk.seqQ fun Q93 qn93 qx93 qr93 => ?_
        refine COk.blkQ fun Q99 qn99 qe99 qx99 qr99 => ?_
        refine COk.seqQ fun Q100 qn100 qx100 qr100 => ?_
        refine gor hn ?_
        refine qn100 _ _ ?_
        refine COk.seqQ fun Q101 qn101 qx101 qr101 => ?_
        refine god hn (by kernel_rfl) ?_
        refine idxK hx12 ?_
        obtain ⟨x14, hx15, h7⟩ := bindM h7
        refine idxM hx15 ?_
        refine qn101 _ _ ?_
        refine goc hn ?_
        refine bselM h7 (fun hb16 h7 => ?_) (fun hb16 h7 => ?_)
        · refine COk.seqQ fun Q103 qn103 qx103 qr103 => ?_
          refine gor hn ?_
          refine qn103 _ _ ?_
          refine got hn ?_
          refine qr99 _ _ ?_
          refine qr93 _ _ ?_
          refine qr88 _ _ ?_
          refine qr87 _ _ ?_
          refine qr86 _ _ ?_
          refine qr58 _ _ ?_
          obtain rfl := Option.some.inj h7
          obtain rfl := Option.some.inj h
          exact ⟨[], _, rfl, (by repeat (first | exact trivial | exact rfl | (refine And.intro ?_ ?_))), trivial, rfl, rfl, rfl, rfl, rfl⟩
        · refine gok hn ?_
          refine qn99 _ _ ?_
          refine qn93 _ _ ?_
          refine gor hn ?_
          refine Or.inl (And.intro (inrK hx12 hl4) ?_)
          refine qn88 _ _ ?_
          refine EOk.done ?_
          exact ⟨⟨(rest8, k5 + 1), hd2, h7⟩, [], by show rest8.length < rest8.length + 1; omega, ⟨⟨(by repeat (first | exact trivial | exact rfl | (refine And.intro ?_ ?_))), (by repeat (first | exact trivial | exact rfl | (refine And.intro ?_ ?_))), rfl, rfl, trivial⟩, trivial, rfl, rfl⟩⟩
    rintro ⟨⟨⟩, rfl⟩
    refine qn58 _ _ ?_
    refine COk.seqQ fun Q104 qn104 qx104 qr104 => ?_
    refine gor hn ?_
    refine qn104 _ _ ?_
    refine got hn ?_
    obtain rfl := Option.some.inj h
    exact ⟨[], _, rfl, (by repeat (first | exact trivial | exact rfl | (refine And.intro ?_ ?_))), trivial, rfl, rfl, rfl, rfl, rfl⟩

/- qcref1.SameCells -/
set_option maxRecDepth 100000 in
set_option maxHeartbeats 1000000 in
theorem qcref1_SameCells_ok (N : Nat) (a0 : (List Ce)) (a1 : (List Ce)) (r : Bool) (h : qcref1_SameCells N a0 a1 = some r) : Spec Try.prog 15 [] [.sl 6 (List.map eCe a0), .sl 6 (List.map eCe a1)] (.bool r) [] [] := by
  refine Spec.of tabOk Try.func15 rfl Try.ntmps15 (by kernel_rfl) rfl rfl rfl fun Γ hn => ?_
  unfold qcref1_SameCells at h
  refine COk.seqQ fun Q59 qn59 qx59 qr59 => ?_
  refine gor hn ?_
  refine qn59 _ _ ?_
  refine COk.seqQ fun Q60 qn60 qx60 qr60 => ?_
  refine COk.seqQ fun Q61 qn61 qx61 qr61 => ?_
  refine gor hn ?_
  refine lenM (fun hl1 => ?_)
  refine lenM (fun hl2 => ?_)
  refine qn61 _ _ ?_
  refine goc hn ?_
  refine bselM h (fun hb3 h => ?_) (fun hb3 h => ?_)
  · refine COk.seqQ fun Q63 qn63 qx63 qr63 => ?_
    refine gor hn ?_
    refine qn63 _ _ ?_
    refine got hn ?_
    refine qr60 _ _ ?_
    obtain rfl := Option.some.inj h
    exact ⟨[], _, rfl, (by repeat (first | exact trivial | exact rfl | (refine And.intro ?_ ?_))), trivial, rfl, rfl, rfl, rfl, rfl⟩
  · refine gok hn ?_
    refine qn60 _ _ ?_
    refine COk.seqQ fun Q64 qn64 qx64 qr64 => ?_
    refine COk.seqQ fun Q65 qn65 qx65 qr65 => ?_
    refine gor hn ?_
    refine lenM (fun hl4 => ?_)
    refine qn65 _ _ ?_
    obtain ⟨o6, h7, h⟩ := bindM h
    refine COk.joinR (ι := { s : Unit // o6 = Ctl.next s }) (fun s => []) (fun s => []) (fun Q96 qn96 qx96 qr96 => ?_) (by intro s; rw [hn]; rfl) ?_
    · refine COk.blkQ fun Q97 qn97 qe97 qx97 qr97 => ?_
      refine COk.loopQ (ι := { q : ((List Ce) × Nat) // q.1 = a0.drop q.2 ∧ qcref1_SameCells_l1 N a1 q.1 q.2 = some o6 }) (fun q => [(0, .sl 6 (List.map eCe a0)), (1, .sl 6 (List.map eCe a1)), (12, .int (a0.length : Int)), (13, .int (q.1.2 : Int))]) (fun q => []) (fun q => q.1.1.length) ⟨(a0, 0), rfl, h7⟩ [] ⟨⟨(by repeat (first | exact trivial | exact rfl | (refine And.intro ?_ ?_))), (by repeat (first | exact trivial | exact rfl | (refine And.intro ?_ ?_))), rfl, rfl, trivial⟩, trivial, rfl, rfl⟩ (by intro q; rw [hn]; rfl) ?_
      rintro ⟨⟨rest_, k5⟩, hd9, h7⟩ Q98 qn98 qx98 qr98
      replace hd9 : rest_ = a0.drop k5 := hd9
      rcases rest_ with _ | ⟨x11, rest8⟩
      · have hlt13 := restNil hd9
        replace h7 := (qcref1_SameCells_l1.eq_1 _ _ _).symm.trans h7
        refine COk.seqQ fun Q99 qn99 qx99 qr99 => ?_
        refine gor hn ?_
        refine qn99 _ _ ?_
        refine COk.seqQ fun Q100 qn100 qx100 qr100 => ?_
        refine goc hn ?_
        refine bselF hlt13 ?_
        refine goe hn ?_
        refine qx100 _ _ _ ?_
        refine qx98 _ _ _ ?_
        refine qe97 _ _ ?_
        refine qn96 _ _ ?_
        obtain rfl := Option.some.inj h7
        refine EOk.done ?_
        exact ⟨⟨_, rfl⟩, [], trivial, ⟨trivial, trivial, rfl, rfl⟩⟩
      · obtain ⟨hx12, hd2, hlt13⟩ := restCons hd9
        replace h7 := (qcref1_SameCells_l1.eq_2 _ _ _ _ _).symm.trans h7
        refine COk.seqQ fun Q101 qn101 qx101 qr101 => ?_
        refine gor hn ?_
        refine qn101 _ _ ?_
        refine COk.seqQ fun Q102 qn102 qx102 qr102 => ?_
        refine goc hn ?_
        refine bselT hlt13 ?_
        refine gok hn ?_
        refine qn102 _ _ ?_
        refine COk.seqQ fun Q103 qn103 qx103 qr103 => ?_
        refine COk.blkQ fun Q110 qn110 qe110 qx110 qr110 => ?_
        refine COk.seqQ fun Q111 qn111 qx111 qr111 => ?_
        refine gor hn ?_
        refine qn111 _ _ ?_
        refine COk.seqQ fun Q112 qn112 qx112 qr112 => ?_
        obtain ⟨o16, h15, h7⟩ := bindM h7
        refine COk.joinR (ι := { s : Bool // o16 = s }) (fun s => [(0, .sl 6 (List.map eCe a0)), (1, .sl 6 (List.map eCe a1)), (12, .int (a0.length : Int)), (13, .int (k5 : Int)), (66, .bool s.1)]) (fun s => []) (fun Q113 qn113 qx113 qr113 => ?_) (by intro s; rw [hn]; rfl) ?_
        · refine COk.sub (ts2 := [(0, .sl 6 (List.map eCe a0)), (1, .sl 6 (List.map eCe a1)), (5, .int (k5 : Int)), (12, .int (a0.length : Int)), (13, .int (k5 : Int))]) (os2 := []) [] ⟨⟨(by repeat (first | exact trivial | exact rfl | (refine And.intro ?_ ?_))), (by repeat (first | exact trivial | exact rfl | (refine And.intro ?_ ?_))), rfl, rfl, rfl, trivial⟩, trivial, rfl, rfl⟩ (by rw [hn]; rfl) ?_
          refine god hn (by kernel_rfl) ?_
          refine idxK hx12 ?_
          obtain ⟨x17, hx18, h15⟩ := bindM h15
          refine idxM hx18 ?_
          refine bselM h15 (fun hb19 h15 => ?_) (fun hb19 h15 => ?_)
          · refine bselT hb19 ?_
            refine bselT hb19 ?_
            refine bselT hb19 ?_
            refine bselT hb19 ?_
            refine bselT hb19 ?_
            refine bselT hb19 ?_
            refine bselT hb19 ?_
            refine bselT hb19 ?_
            refine bselT hb19 ?_
            refine bselT hb19 ?_
            refine bselT hb19 ?_
            refine qn113 _ _ ?_
            obtain rfl := Option.some.inj h15
            refine EOk.done ?_
            exact ⟨⟨_, rfl⟩, [], trivial, ⟨⟨(by repeat (first | exact trivial | exact rfl | (refine And.intro ?_ ?_))), (by repeat (first | exact trivial | exact rfl | (refine And.intro ?_ ?_))), rfl, rfl, rfl, trivial⟩, trivial, rfl, rfl⟩⟩
          · refine bselF hb19 ?_
            refine bselF hb19 ?_
            refine idxK hx12 ?_
            refine bselF hb19 ?_
            refine bselF hb19 ?_
            refine bselF hb19 ?_
            refine bselF hb19 ?_
            refine bselF hb19 ?_
            obtain ⟨x20, hx21, h15⟩ := bindM h15
            refine idxM hx21 ?_
            refine bselF hb19 ?_
            refine bselF hb19 ?_
            refine bselF hb19 ?_
            refine bselF hb19 ?_
            refine bselM h15 (fun hb22 h15 => ?_) (fun hb22 h15 => ?_)
            · refine bselT hb22 ?_
              refine bselT hb22 ?_
              refine bselT hb22 ?_
              refine bselT hb22 ?_
              refine bselT hb22 ?_
              refine bselT hb22 ?_
              refine bselT hb22 ?_
              refine bselT hb22 ?_
              refine bselT hb22 ?_
              refine bselT hb22 ?_
              refine bselT hb22 ?_
              refine qn113 _ _ ?_
              obtain rfl := Option.some.inj h15
              refine EOk.done ?_
              exact ⟨⟨_, rfl⟩, [], trivial, ⟨⟨(by repeat (first | exact trivial | exact rfl | (refine And.intro ?_ ?_))), (by repeat (first | exact trivial | exact rfl | (refine And.intro ?_ ?_))), rfl, rfl, rfl, trivial⟩, trivial, rfl, rfl⟩⟩
            · refine bselF hb22 ?_
              refine bselF hb22 ?_
              refine idxK hx12 ?_
              refine bselF hb22 ?_
              refine bselF hb22 ?_
              refine bselF hb22 ?_
              refine bselF hb22 ?_
              refine bselF hb22 ?_
              obtain ⟨x23, hx24, h15⟩ := bindM h15
              refine idxM hx24 ?_
              refine bselF hb22 ?_
              refine bselF hb22 ?_
              refine bselF hb22 ?_
              refine bselF hb22 ?_
              refine bselM h15 (fun hb25 h15 => ?_) (fun hb25 h15 => ?_)
              · refine bselT hb25 ?_
                refine bselT hb25 ?_
                refine bselT hb25 ?_
                refine bselT hb25 ?_
                refine bselT hb25 ?_
                refine bselT hb25 ?_
                refine bselT hb25 ?_
                refine bselT hb25 ?_
                refine bselT hb25 ?_
                refine bselT hb25 ?_
                refine bselT hb25 ?_
                refine bselT hb25 ?_
                refine qn113 _ _ ?_
                obtain rfl := Option.some.inj h15
                refine EOk.done ?_
                exact ⟨⟨_, rfl⟩, [], trivial, ⟨⟨(by repeat (first | exact trivial | exact rfl | (refine And.intro ?_ ?_))), (by repeat (first | exact trivial | exact rfl | (refine And.intro ?_ ?_))), rfl, rfl, rfl, trivial⟩, trivial, rfl, rfl⟩⟩
              · refine bselF hb25 ?_
                refine bselF hb25 ?_
                refine idxK hx12 ?_
                refine bselF hb25 ?_
                refine bselF hb25 ?_
                refine bselF hb25 ?_
                refine bselF hb25 ?_
                refine bselF hb25 ?_
                obtain ⟨x26, hx27, h15⟩ := bindM h15
                refine idxM hx27 ?_
                refine bselF hb25 ?_
                refine bselF hb25 ?_
                refine bselF hb25 ?_
                obtain ⟨r28, hr29, h15⟩ := bindM h15
                show CallOk Try.prog _ _ _ _
                refine CallOk.as (qcref1_SameLines_ok N x11.lines x26.lines r28 hr29) (by repeat (first | exact trivial | exact rfl | (refine And.intro ?_ ?_))) trivial rfl ?_
                refine bselF hb25 ?_
                refine bselF hb25 ?_
                refine qn113 _ _ ?_
                obtain rfl := Option.some.inj h15
                refine EOk.done ?_
                exact ⟨⟨_, rfl⟩, [], trivial, ⟨⟨(by repeat (first | exact trivial | exact rfl | (refine And.intro ?_ ?_))), (by repeat (first | exact trivial | exact rfl | (refine And.intro ?_ ?_))), rfl, rfl, rfl, trivial⟩, trivial, rfl, rfl⟩⟩
        rintro ⟨v14, hv_⟩
        replace hv_ := hv_.symm
        subst hv_
        refine qn112 _ _ ?_
        refine goc hn ?_
        refine bselM h7 (fun hb30 h7 => ?_) (fun hb30 h7 => ?_)
        · refine COk.seqQ fun Q115 qn115 qx115 qr115 => ?_
          refine gor hn ?_
          refine qn115 _ _ ?_
          refine got hn ?_
          refine qr110 _ _ ?_
          refine qr103 _ _ ?_
          refine qr98 _ _ ?_
          refine qr97 _ _ ?_
          refine qr96 _ _ ?_
          refine qr64 _ _ ?_
          obtain rfl := Option.some.inj h7
          obtain rfl := Option.some.inj h
          exact ⟨[], _, rfl, (by repeat (first | exact trivial | exact rfl | (refine And.intro ?_ ?_))), trivial, rfl, rfl, rfl, rfl, rfl⟩
        · refine gok hn ?_
          refine qn110 _ _ ?_
          refine qn103 _ _ ?_
          refine gor hn ?_
          refine Or.inl (And.intro (inrK hx12 hl4) ?_)
          refine qn98 _ _ ?_
          refine EOk.done ?_
          exact ⟨⟨(rest8, k5 + 1), hd2, h7⟩, [], by show rest8.length < rest8.length + 1; omega, ⟨⟨(by repeat (first | exact trivial | exact rfl | (refine And.intro ?_ ?_))), (by repeat (first | exact trivial | exact rfl | (refine And.intro ?_ ?_))), rfl, rfl, trivial⟩, trivial, rfl, rfl⟩⟩
    rintro ⟨⟨⟩, rfl⟩
    refine qn64 _ _ ?_
    refine COk.seqQ fun Q116 qn116 qx116 qr116 => ?_
    refine gor hn ?_
    refine qn116 _ _ ?_
    refine got hn ?_
    obtain rfl := Option.some.inj h
    exact ⟨[], _, rfl, (by repeat (first | exact trivial | exact rfl | (refine And.intro ?_ ?_))), trivial, rfl, rfl, rfl, rfl, rfl⟩

/- qcref1.Rises -/
set_option maxRecDepth 100000 in
set_option maxHeartbeats 1000000 in
theorem qcref1_Rises_ok (N : Nat) (a0 : Wd) (r : Bool) (h : qcref1_Rises N a0 = some r) : Spec Try.prog 19 [] [.agg (eWd a0)] (.bool r) [] [] := by
  refine Spec.of tabOk Try.func19 rfl Try.ntmps19 (by kernel_rfl) rfl rfl rfl fun Γ hn => ?_
  unfold qcref1_Rises at h
  refine COk.seqQ fun Q476 qn476 qx476 qr476 => ?_
  refine gor hn ?_
  refine qn476 _ _ ?_
  refine COk.seqQ fun Q477 qn477 qx477 qr477 => ?_
  refine COk.seqQ fun Q478 qn478 qx478 qr478 => ?_
  refine gor hn ?_
  refine lenM (fun hl1 => ?_)
  refine qn478 _ _ ?_
  obtain ⟨o3, h4, h⟩ := bindM h
  refine COk.joinR (ι := { s : Unit // o3 = Ctl.next s }) (fun s => []) (fun s => []) (fun Q836 qn836 qx836 qr836 => ?_) (by intro s; rw [hn]; rfl) ?_
  · refine COk.blkQ fun Q837 qn837 qe837 qx837 qr837 => ?_
    refine COk.loopQ (ι := { q : ((List Cl) × Nat) // q.1 = a0.classes.drop q.2 ∧ qcref1_Rises_l1 N q.1 q.2 = some o3 }) (fun q => [(7, .sl 4 (List.map eCl a0.classes)), (8, .int (a0.classes.length : Int)), (9, .int (q.1.2 : Int))]) (fun q => []) (fun q => q.1.1.length) ⟨(a0.classes, 0), rfl, h4⟩ [] ⟨⟨(by repeat (first | exact trivial | exact rfl | (refine And.intro ?_ ?_))), rfl, rfl, trivial⟩, trivial, rfl, rfl⟩ (by intro q; rw [hn]; rfl) ?_
    rintro ⟨⟨rest_, k2⟩, hd6, h4⟩ Q838 qn838 qx838 qr838
    replace hd6 : rest_ = a0.classes.drop k2 := hd6
    rcases rest_ with _ | ⟨x8, rest5⟩
    · have hlt10 := restNil hd6
      replace h4 := (qcref1_Rises_l1.eq_1 _ _).symm.trans h4
      refine COk.seqQ fun Q839 qn839 qx839 qr839 => ?_
      refine gor hn ?_
      refine qn839 _ _ ?_
      refine COk.seqQ fun Q840 qn840 qx840 qr840 => ?_
      refine goc hn ?_
      refine bselF hlt10 ?_
      refine goe hn ?_
      refine qx840 _ _ _ ?_
      refine qx838 _ _ _ ?_
      refine qe837 _ _ ?_
      refine qn836 _ _ ?_
      obtain rfl := Option.some.inj h4
      refine EOk.done ?_
      exact ⟨⟨_, rfl⟩, [], trivial, ⟨trivial, trivial, rfl, rfl⟩⟩
    · obtain ⟨hx9, hd2, hlt10⟩ := restCons hd6
      replace h4 := (qcref1_Rises_l1.eq_2 _ _ _ _).symm.trans h4
      refine COk.seqQ fun Q841 qn841 qx841 qr841 => ?_
      refine gor hn ?_
      refine qn841 _ _ ?_
      refine COk.seqQ fun Q842 qn842 qx842 qr842 => ?_
      refine goc hn ?_
      refine bselT hlt10 ?_
      refine gok hn ?_
      refine qn842 _ _ ?_
      refine COk.seqQ fun Q843 qn843 qx843 qr843 => ?_
      refine COk.blkQ fun Q897 qn897 qe897 qx897 qr897 => ?_
      refine COk.seqQ fun Q898 qn898 qx898 qr898 => ?_
      refine gor hn ?_
      refine idxK hx9 ?_
      refine qn898 _ _ ?_
      refine COk.seqQ fun Q899 qn899 qx899 qr899 => ?_
      refine gor hn ?_
      refine lenM (fun hl11 => ?_)
      refine qn899 _ _ ?_
      obtain ⟨o13, h14, h4⟩ := bindM h4
      refine COk.joinR (ι := { s : Unit // o13 = Ctl.next s }) (fun s => [(7, .sl 4 (List.map eCl a0.classes)), (8, .int (a0.classes.length : Int)), (9, .int (k2 : Int))]) (fun s => []) (fun Q930 qn930 qx930 qr930 => ?_) (by intro s; rw [hn]; rfl) ?_
      · refine COk.blkQ fun Q931 qn931 qe931 qx931 qr931 => ?_
        refine COk.loopQ (ι := { q : ((List Me) × Nat) // q.1 = x8.methods.drop q.2 ∧ qcref1_Rises_l2 N x8 q.1 q.2 = some o13 }) (fun q => [(4, .ptr 4 0), (7, .sl 4 (List.map eCl a0.classes)), (8, .int (a0.classes.length : Int)), (9, .int (k2 : Int)), (15, .int (x8.methods.length : Int)), (16, .int (q.1.2 : Int))]) (fun q => [(4, .box (eCl x8) 60)]) (fun q => q.1.1.length) ⟨(x8.methods, 0), rfl, h14⟩ [] ⟨⟨rfl, (by repeat (first | exact trivial | exact rfl | (refine And.intro ?_ ?_))), rfl, rfl, rfl, rfl, trivial⟩, ⟨rfl, trivial⟩, rfl, rfl⟩ (by intro q; rw [hn]; rfl) ?_
        rintro ⟨⟨rest_, k12⟩, hd16, h14⟩ Q932 qn932 qx932 qr932
        replace hd16 : rest_ = x8.methods.drop k12 := hd16
        rcases rest_ with _ | ⟨x18, rest15⟩
        · have hlt20 := restNil hd16
          replace h14 := (qcref1_Rises_l2.eq_1 _ _ _).symm.trans h14
          refine COk.seqQ fun Q933 qn933 qx933 qr933 => ?_
          refine gor hn ?_
          refine qn933 _ _ ?_
          refine COk.seqQ fun Q934 qn934 qx934 qr934 => ?_
          refine goc hn ?_
          refine bselF hlt20 ?_
          refine goe hn ?_
          refine qx934 _ _ _ ?_
          refine qx932 _ _ _ ?_
          refine qe931 _ _ ?_
          refine qn930 _ _ ?_
          obtain rfl := Option.some.inj h14
          refine EOk.done ?_
          exact ⟨⟨_, rfl⟩, [], trivial, ⟨⟨(by repeat (first | exact trivial | exact rfl | (refine And.intro ?_ ?_))), rfl, rfl, trivial⟩, trivial, rfl, rfl⟩⟩
        · obtain ⟨hx19, hd2, hlt20⟩ := restCons hd16
          replace h14 := (qcref1_Rises_l2.eq_2 _ _ _ _ _).symm.trans h14
          refine COk.seqQ fun Q935 qn935 qx935 qr935 => ?_
          refine gor hn ?_
          refine qn935 _ _ ?_
          refine COk.seqQ fun Q936 qn936 qx936 qr936 => ?_
          refine goc hn ?_
          refine bselT hlt20 ?_
          refine gok hn ?_
          refine qn936 _ _ ?_
          refine COk.seqQ fun Q937 qn937 qx937 qr937 => ?_
          refine COk.blkQ fun Q944 qn944 qe944 qx944 qr944 => ?_
          refine COk.seqQ fun Q945 qn945 qx945 qr945 => ?_
          refine gor hn ?_
          refine qn945 _ _ ?_
          refine COk.seqQ fun Q946 qn946 qx946 qr946 => ?_
          obtain ⟨o23, h22, h14⟩ := bindM h14
          refine COk.joinR (ι := { s : Bool // o23 = s }) (fun s => [(4, .ptr 4 0), (7, .sl 4 (List.map eCl a0.classes)), (8, .int (a0.classes.length : Int)), (9, .int (k2 : Int)), (15, .int (x8.methods.length : Int)), (16, .int (k12 : Int)), (36, .bool s.1)]) (fun s => [(4, .box (eCl x8) 60)]) (fun Q947 qn947 qx947 qr947 => ?_) (by intro s; rw [hn]; rfl) ?_
          · refine COk.sub (ts2 := [(4, .ptr 4 0), (5, .int (k12 : Int)), (7, .sl 4 (List.map eCl a0.classes)), (8, .int (a0.classes.length : Int)), (9, .int (k2 : Int)), (15, .int (x8.methods.length : Int)), (16, .int (k12 : Int))]) (os2 := [(4, .box (eCl x8) 60)]) [] ⟨⟨rfl, rfl, (by repeat (first | exact trivial | exact rfl | (refine And.intro ?_ ?_))), rfl, rfl, rfl, rfl, trivial⟩, ⟨rfl, trivial⟩, rfl, rfl⟩ (by rw [hn]; rfl) ?_
            refine god hn (by kernel_rfl) ?_
            refine bselM h22 (fun hb24 h22 => ?_) (fun hb24 h22 => ?_)
            · refine bselT hb24 ?_
              refine bselT hb24 ?_
              refine bselT hb24 ?_
              refine Or.inr ?_
              refine bselT hb24 ?_
              obtain ⟨x25, hx26, h22⟩ := bindM h22
              refine idxM hx26 ?_
              refine bselT hb24 ?_
              refine bselT hb24 ?_
              refine bselT hb24 ?_
              refine bselT hb24 ?_
              refine bselT hb24 ?_
              refine bselT hb24 ?_
              refine idxK hx19 ?_
              refine bselT hb24 ?_
              refine bselT hb24 ?_
              refine bselT hb24 ?_
              refine bselT hb24 ?_
              refine qn947 _ _ ?_
              obtain rfl := Option.some.inj h22
              refine EOk.done ?_
              exact ⟨⟨_, rfl⟩, [], trivial, ⟨⟨rfl, (by repeat (first | exact trivial | exact rfl | (refine And.intro ?_ ?_))), rfl, rfl, rfl, rfl, rfl, trivial⟩, ⟨rfl, trivial⟩, rfl, rfl⟩⟩
            · refine bselF hb24 ?_
              refine bselF hb24 ?_
              refine bselF hb24 ?_
              refine bselF hb24 ?_
              refine bselF hb24 ?_
              refine bselF hb24 ?_
              refine bselF hb24 ?_
              refine bselF hb24 ?_
              refine bselF hb24 ?_
              refine bselF hb24 ?_
              refine bselF hb24 ?_
              refine bselF hb24 ?_
              refine bselF hb24 ?_
              refine bselF hb24 ?_
              refine qn947 _ _ ?_
              obtain rfl := Option.some.inj h22
              refine EOk.done ?_
              exact ⟨⟨_, rfl⟩, [], trivial, ⟨⟨rfl, (by repeat (first | exact trivial | exact rfl | (refine And.intro ?_ ?_))), rfl, rfl, rfl, rfl, rfl, trivial⟩, ⟨rfl, trivial⟩, rfl, rfl⟩⟩
          rintro ⟨v21, hv_⟩
          replace hv_ := hv_.symm
          subst hv_
          refine qn946 _ _ ?_
          refine goc hn ?_
          refine bselM h14 (fun hb27 h14 => ?_) (fun hb27 h14 => ?_)
          · refine COk.seqQ fun Q949 qn949 qx949 qr949 => ?_
            refine gor hn ?_
            refine qn949 _ _ ?_
            refine got hn ?_
            refine qr944 _ _ ?_
            refine qr937 _ _ ?_
            refine qr932 _ _ ?_
            refine qr931 _ _ ?_
            refine qr930 _ _ ?_
            refine qr897 _ _ ?_
            refine qr843 _ _ ?_
            refine qr838 _ _ ?_
            refine qr837 _ _ ?_
            refine qr836 _ _ ?_
            refine qr477 _ _ ?_
            obtain rfl := Option.some.inj h14
            obtain rfl := Option.some.inj h4
            obtain rfl := Option.some.inj h
            exact ⟨[], _, rfl, (by repeat (first | exact trivial | exact rfl | (refine And.intro ?_ ?_))), trivial, rfl, rfl, rfl, rfl, rfl⟩
          · refine gok hn ?_
            refine qn944 _ _ ?_
            refine qn937 _ _ ?_
            refine gor hn ?_
            refine Or.inl (And.intro (inrK hx19 hl11) ?_)
            refine qn932 _ _ ?_
            refine EOk.done ?_
            exact ⟨⟨(rest15, k12 + 1), hd2, h14⟩, [], by show rest15.length < rest15.length + 1; omega, ⟨⟨rfl, (by repeat (first | exact trivial | exact rfl | (refine And.intro ?_ ?_))), rfl, rfl, rfl, rfl, trivial⟩, ⟨rfl, trivial⟩, rfl, rfl⟩⟩
      rintro ⟨⟨⟩, rfl⟩
      refine qn897 _ _ ?_
      refine qn843 _ _ ?_
      refine gor hn ?_
      refine Or.inl (And.intro (inrK hx9 hl1) ?_)
      refine qn838 _ _ ?_
      refine EOk.done ?_
      exact ⟨⟨(rest5, k2 + 1), hd2, h4⟩, [], by show rest5.length < rest5.length + 1; omega, ⟨⟨(by repeat (first | exact trivial | exact rfl | (refine And.intro ?_ ?_))), rfl, rfl, trivial⟩, trivial, rfl, rfl⟩⟩
  rintro ⟨⟨⟩, rfl⟩
  refine qn477 _ _ ?_
  refine COk.seqQ fun Q950 qn950 qx950 qr950 => ?_
  refine gor hn ?_
  refine qn950 _ _ ?_
  refine got hn ?_
  obtain rfl := Option.some.inj h
  exact ⟨[], _, rfl, (by repeat (first | exact trivial | exact rfl | (refine And.intro ?_ ?_))), trivial, rfl, rfl, rfl, rfl, rfl⟩

/- slices.BinarySearchFunc[[]api.Method,api.Method,string] -/
set_option maxRecDepth 100000 in
set_option maxHeartbeats 1000000 in
theorem slices_BinarySearchFunc_api_Method_api_Method_string_ok (N : Nat) (a0 : (List Me)) (a1 : ByteArray) (g2 : Me → ByteArray → Option Int) {K2 : Nat} (hg2 : ∀ x0_ x1_ y_, g2 x0_ x1_ = some y_ → Spec Try.prog K2 [] [.agg (eMe x0_), .str x1_] (.int y_) [] []) (r : (Int × Bool)) (h : slices_BinarySearchFunc_api_Method_api_Method_string N a0 a1 g2 = some r) : Spec Try.prog 69 [] [.sl 5 (List.map eMe a0), .str a1, .fn K2 []] (.tup [.int r.1, .bool r.2]) [] [] := by
  refine Spec.of tabOk Try.func69 rfl Try.ntmps69 (by kernel_rfl) rfl rfl rfl fun Γ hn => ?_
  unfold slices_BinarySearchFunc_api_Method_api_Method_string at h
  refine COk.seqQ fun Q50 qn50 qx50 qr50 => ?_
  refine gor hn ?_
  refine qn50 _ _ ?_
  refine COk.seqQ fun Q51 qn51 qx51 qr51 => ?_
  refine gor hn ?_
  refine lenM (fun hl1 => ?_)
  refine qn51 _ _ ?_
  refine COk.seqQ fun Q52 qn52 qx52 qr52 => ?_
  refine gor hn ?_
  refine qn52 _ _ ?_
  refine COk.seqQ fun Q53 qn53 qx53 qr53 => ?_
  obtain ⟨o8, h9, h⟩ := bindM h
  refine COk.joinR (ι := { s : Int // o8 = s }) (fun s => [(0, .sl 5 (List.map eMe a0)), (1, .str a1), (2, .fn K2 []), (8, .int (a0.length : Int)), (9, .int s.1)]) (fun s => []) (fun Q84 qn84 qx84 qr84 => ?_) (by intro s; rw [hn]; rfl) ?_
  · refine COk.blkQ fun Q85 qn85 qe85 qx85 qr85 => ?_
    refine COk.loopQ (ι := { q : (Nat × Int × Int) // slices_BinarySearchFunc_api_Method_api_Method_string_l1 N a0 a1 g2 q.1 q.2.1 q.2.2 = some o8 }) (fun q => [(0, .sl 5 (List.map eMe a0)), (1, .str a1), (2, .fn K2 []), (8, .int (a0.length : Int)), (9, .int q.1.2.1), (10, .int q.1.2.2)]) (fun q => []) (fun q => q.1.1) ⟨(N, (0 : Int), (a0.length : Int)), h9⟩ [] ⟨⟨(by repeat (first | exact trivial | exact rfl | (refine And.intro ?_ ?_))), rfl, rfl, rfl, rfl, rfl, trivial⟩, trivial, rfl, rfl⟩ (by intro q; rw [hn]; rfl) ?_
    rintro ⟨⟨n_, v3, v4⟩, h9⟩ Q86 qn86 qx86 qr86
    rcases n_ with _ | n12
    · rw [slices_BinarySearchFunc_api_Method_api_Method_string_l1.eq_1] at h9
      cases h9
    · replace h9 := (slices_BinarySearchFunc_api_Method_api_Method_string_l1.eq_2 _ _ _ _ _ _ _).symm.trans h9
      refine COk.seqQ fun Q87 qn87 qx87 qr87 => ?_
      refine COk.seqQ fun Q88 qn88 qx88 qr88 => ?_
      refine gor hn ?_
      refine qn88 _ _ ?_
      refine goc hn ?_
      refine bselM h9 (fun hb13 h9 => ?_) (fun hb13 h9 => ?_)
      · refine gok hn ?_
        refine qn87 _ _ ?_
        refine COk.blkQ fun Q93 qn93 qe93 qx93 qr93 => ?_
        refine COk.seqQ fun Q94 qn94 qx94 qr94 => ?_
        refine gor hn ?_
        refine Or.inr ?_
        obtain ⟨hg14, h9⟩ := guardM h9
        refine decM hg14 ?_
        refine And.intro rfl ?_
        refine And.intro rfl ?_
        obtain ⟨hg15, h9⟩ := guardM h9
        refine decM hg15 ?_
        refine qn94 _ _ ?_
        refine COk.seqQ fun Q95 qn95 qx95 qr95 => ?_
        refine gor hn ?_
        obtain ⟨x16, hx17, h9⟩ := bindM h9
        refine idxM hx17 ?_
        obtain ⟨r18, hr19, h9⟩ := bindM h9
        show CallOk Try.prog _ _ _ _
        refine CallOk.as (hg2 _ _ _ hr19) (by repeat (first | exact trivial | exact rfl | (refine And.intro ?_ ?_))) trivial rfl ?_
        refine qn95 _ _ ?_
        obtain ⟨o23, h22, h9⟩ := bindM h9
        refine COk.joinR (ι := { s : (Int × Int) // o23 = s }) (fun s => [(0, .sl 5 (List.map eMe a0)), (1, .str a1), (2, .fn K2 []), (8, .int (a0.length : Int)), (9, .int s.1.1), (10, .int s.1.2)]) (fun s => []) (fun Q96 qn96 qx96 qr96 => ?_) (by intro s; rw [hn]; rfl) ?_
        · refine goc hn ?_
          refine bselM h22 (fun hb24 h22 => ?_) (fun hb24 h22 => ?_)
          · refine COk.sub (ts2 := [(0, .sl 5 (List.map eMe a0)), (1, .str a1), (2, .fn K2 []), (8, .int (a0.length : Int)), (10, .int v4), (11, .int ((wr (v3 + v4)) / 2))]) (os2 := []) [] ⟨⟨(by repeat (first | exact trivial | exact rfl | (refine And.intro ?_ ?_))), rfl, rfl, rfl, rfl, rfl, trivial⟩, trivial, rfl, rfl⟩ (by rw [hn]; rfl) ?_
            refine gor hn ?_
            refine Or.inr ?_
            refine qn96 _ _ ?_
            obtain rfl := Option.some.inj h22
            refine EOk.done ?_
            exact ⟨⟨_, rfl⟩, [], trivial, ⟨⟨(by repeat (first | exact trivial | exact rfl | (refine And.intro ?_ ?_))), rfl, rfl, rfl, rfl, rfl, trivial⟩, trivial, rfl, rfl⟩⟩
          · refine COk.sub (ts2 := [(0, .sl 5 (List.map eMe a0)), (1, .str a1), (2, .fn K2 []), (8, .int (a0.length : Int)), (9, .int v3), (11, .int ((wr (v3 + v4)) / 2))]) (os2 := []) [] ⟨⟨(by repeat (first | exact trivial | exact rfl | (refine And.intro ?_ ?_))), rfl, rfl, rfl, rfl, rfl, trivial⟩, trivial, rfl, rfl⟩ (by rw [hn]; rfl) ?_
            refine gor hn ?_
            refine qn96 _ _ ?_
            obtain rfl := Option.some.inj h22
            refine EOk.done ?_
            exact ⟨⟨_, rfl⟩, [], trivial, ⟨⟨(by repeat (first | exact trivial | exact rfl | (refine And.intro ?_ ?_))), rfl, rfl, rfl, rfl, rfl, trivial⟩, trivial, rfl, rfl⟩⟩
        rintro ⟨⟨v20, v21⟩, rfl⟩
        refine qn93 _ _ ?_
        refine qn86 _ _ ?_
        refine EOk.done ?_
        exact ⟨⟨(n12, v20, v21), h9⟩, [], by show n12 < n12 + 1; omega, ⟨⟨(by repeat (first | exact trivial | exact rfl | (refine And.intro ?_ ?_))), rfl, rfl, rfl, rfl, rfl, trivial⟩, trivial, rfl, rfl⟩⟩
      · refine goe hn ?_
        refine qx87 _ _ _ ?_
        refine qx86 _ _ _ ?_
        refine qe85 _ _ ?_
        refine qn84 _ _ ?_
        obtain rfl := Option.some.inj h9
        refine EOk.done ?_
        exact ⟨⟨_, rfl⟩, [], trivial, ⟨⟨(by repeat (first | exact trivial | exact rfl | (refine And.intro ?_ ?_))), rfl, rfl, rfl, rfl, trivial⟩, trivial, rfl, rfl⟩⟩
  rintro ⟨v7, hv_⟩
  replace hv_ := hv_.symm
  subst hv_
  refine qn53 _ _ ?_
  refine COk.seqQ fun Q97 qn97 qx97 qr97 => ?_
  obtain ⟨o27, h26, h⟩ := bindM h
  refine COk.joinR (ι := { s : Bool // o27 = s }) (fun s => [(6, .int v7), (7, .bool s.1)]) (fun s => []) (fun Q98 qn98 qx98 qr98 => ?_) (by intro s; rw [hn]; rfl) ?_
  · refine gor hn ?_
    refine bselM h26 (fun hb28 h26 => ?_) (fun hb28 h26 => ?_)
    · refine bselT hb28 ?_
      refine bselT hb28 ?_
      refine bselT hb28 ?_
      obtain ⟨x29, hx30, h26⟩ := bindM h26
      refine idxM hx30 ?_
      refine bselT hb28 ?_
      refine bselT hb28 ?_
      refine bselT hb28 ?_
      obtain ⟨r31, hr32, h26⟩ := bindM h26
      show CallOk Try.prog _ _ _ _
      refine CallOk.as (hg2 _ _ _ hr32) (by repeat (first | exact trivial | exact rfl | (refine And.intro ?_ ?_))) trivial rfl ?_
      refine bselT hb28 ?_
      refine bselT hb28 ?_
      refine qn98 _ _ ?_
      obtain rfl := Option.some.inj h26
      refine EOk.done ?_
      exact ⟨⟨_, rfl⟩, [], trivial, ⟨⟨rfl, rfl, trivial⟩, trivial, rfl, rfl⟩⟩
    · refine bselF hb28 ?_
      refine bselF hb28 ?_
      refine bselF hb28 ?_
      refine bselF hb28 ?_
      refine bselF hb28 ?_
      refine bselF hb28 ?_
      refine bselF hb28 ?_
      refine bselF hb28 ?_
      refine qn98 _ _ ?_
      obtain rfl := Option.some.inj h26
      refine EOk.done ?_
      exact ⟨⟨_, rfl⟩, [], trivial, ⟨⟨rfl, rfl, trivial⟩, trivial, rfl, rfl⟩⟩
  rintro ⟨v25, hv_⟩
  replace hv_ := hv_.symm
  subst hv_
  refine qn97 _ _ ?_
  refine got hn ?_
  obtain rfl := Option.some.inj h
  exact ⟨[], _, rfl, (by repeat (first | exact trivial | exact rfl | (refine And.intro ?_ ?_))), trivial, rfl, rfl, rfl, rfl, rfl⟩

/- cmp.isNaN[string] -/
set_option maxRecDepth 100000 in
set_option maxHeartbeats 1000000 in
theorem cmp_isNaN_string_ok (N : Nat) (a0 : ByteArray) (r : Bool) (h : cmp_isNaN_string N a0 = some r) : Spec Try.prog 106 [] [.str a0] (.bool r) [] [] := by
  refine Spec.of tabOk Try.func106 rfl Try.ntmps106 (by kernel_rfl) rfl rfl rfl fun Γ hn => ?_
  unfold cmp_isNaN_string at h
  refine COk.seqQ fun Q3 qn3 qx3 qr3 => ?_
  refine gor hn ?_
  refine qn3 _ _ ?_
  refine COk.seqQ fun Q4 qn4 qx4 qr4 => ?_
  refine gor hn ?_
  refine qn4 _ _ ?_
  refine got hn ?_
  obtain rfl := Option.some.inj h
  exact ⟨[], _, rfl, (by repeat (first | exact trivial | exact rfl | (refine And.intro ?_ ?_))), trivial, rfl, rfl, rfl, rfl, rfl⟩

/- cmp.Compare[string] -/
set_option maxRecDepth 100000 in
set_option maxHeartbeats 1000000 in
theorem cmp_Compare_string_ok (N : Nat) (a0 : ByteArray) (a1 : ByteArray) (r : Int) (h : cmp_Compare_string N a0 a1 = some r) : Spec Try.prog 86 [] [.str a0, .str a1] (.int r) [] [] := by
  refine Spec.of tabOk Try.func86 rfl Try.ntmps86 (by kernel_rfl) rfl rfl rfl fun Γ hn => ?_
  unfold cmp_Compare_string at h
  refine COk.seqQ fun Q29 qn29 qx29 qr29 => ?_
  refine gor hn ?_
  refine qn29 _ _ ?_
  refine COk.seqQ fun Q30 qn30 qx30 qr30 => ?_
  refine gor hn ?_
  obtain ⟨r1, hr2, h⟩ := bindM h
  show CallOk Try.prog _ _ _ _
  refine CallOk.as (cmp_isNaN_string_ok N a0 r1 hr2) (by repeat (first | exact trivial | exact rfl | (refine And.intro ?_ ?_))) trivial rfl ?_
  refine qn30 _ _ ?_
  refine COk.seqQ fun Q31 qn31 qx31 qr31 => ?_
  refine gor hn ?_
  obtain ⟨r3, hr4, h⟩ := bindM h
  show CallOk Try.prog _ _ _ _
  refine CallOk.as (cmp_isNaN_string_ok N a1 r3 hr4) (by repeat (first | exact trivial | exact rfl | (refine And.intro ?_ ?_))) trivial rfl ?_
  refine qn31 _ _ ?_
  refine COk.seqQ fun Q32 qn32 qx32 qr32 => ?_
  refine COk.seqQ fun Q33 qn33 qx33 qr33 => ?_
  refine gor hn ?_
  refine qn33 _ _ ?_
  refine goc hn ?_
  refine bselM h (fun hb5 h => ?_) (fun hb5 h => ?_)
  · refine COk.seqQ fun Q39 qn39 qx39 qr39 => ?_
    refine COk.seqQ fun Q40 qn40 qx40 qr40 => ?_
    refine gor hn ?_
    refine qn40 _ _ ?_
    refine goc hn ?_
    refine bselM h (fun hb6 h => ?_) (fun hb6 h => ?_)
    · refine COk.seqQ fun Q42 qn42 qx42 qr42 => ?_
      refine gor hn ?_
      refine qn42 _ _ ?_
      refine got hn ?_
      refine qr39 _ _ ?_
      refine qr32 _ _ ?_
      obtain rfl := Option.some.inj h
      exact ⟨[], _, rfl, (by repeat (first | exact trivial | exact rfl | (refine And.intro ?_ ?_))), trivial, rfl, rfl, rfl, rfl, rfl⟩
    · refine gok hn ?_
      refine qn39 _ _ ?_
      refine COk.seqQ fun Q43 qn43 qx43 qr43 => ?_
      refine gor hn ?_
      refine qn43 _ _ ?_
      refine got hn ?_
      refine qr32 _ _ ?_
      obtain rfl := Option.some.inj h
      exact ⟨[], _, rfl, (by repeat (first | exact trivial | exact rfl | (refine And.intro ?_ ?_))), trivial, rfl, rfl, rfl, rfl, rfl⟩
  · refine gok hn ?_
    refine qn32 _ _ ?_
    refine COk.seqQ fun Q44 qn44 qx44 qr44 => ?_
    refine COk.seqQ fun Q45 qn45 qx45 qr45 => ?_
    refine gor hn ?_
    refine qn45 _ _ ?_
    refine goc hn ?_
    refine bselM h (fun hb7 h => ?_) (fun hb7 h => ?_)
    · refine COk.seqQ fun Q47 qn47 qx47 qr47 => ?_
      refine gor hn ?_
      refine qn47 _ _ ?_
      refine got hn ?_
      refine qr44 _ _ ?_
      obtain rfl := Option.some.inj h
      exact ⟨[], _, rfl, (by repeat (first | exact trivial | exact rfl | (refine And.intro ?_ ?_))), trivial, rfl, rfl, rfl, rfl, rfl⟩
    · refine gok hn ?_
      refine qn44 _ _ ?_
      refine COk.seqQ fun Q48 qn48 qx48 qr48 => ?_
      refine COk.seqQ fun Q49 qn49 qx49 qr49 => ?_
      refine gor hn ?_
      refine qn49 _ _ ?_
      refine goc hn ?_
      refine bselM h (fun hb8 h => ?_) (fun hb8 h => ?_)
      · refine COk.seqQ fun Q51 qn51 qx51 qr51 => ?_
        refine gor hn ?_
        refine qn51 _ _ ?_
        refine got hn ?_
        refine qr48 _ _ ?_
        obtain rfl := Option.some.inj h
        exact ⟨[], _, rfl, (by repeat (first | exact trivial | exact rfl | (refine And.intro ?_ ?_))), trivial, rfl, rfl, rfl, rfl, rfl⟩
      · refine gok hn ?_
        refine qn48 _ _ ?_
        refine COk.seqQ fun Q52 qn52 qx52 qr52 => ?_
        refine COk.seqQ fun Q53 qn53 qx53 qr53 => ?_
        refine gor hn ?_
        refine qn53 _ _ ?_
        refine goc hn ?_
        refine bselM h (fun hb9 h => ?_) (fun hb9 h => ?_)
        · refine COk.seqQ fun Q55 qn55 qx55 qr55 => ?_
          refine COk.sub (ts2 := []) (os2 := []) [] ⟨trivial, trivial, rfl, rfl⟩ (by rw [hn]; rfl) ?_
          refine gor hn ?_
          refine qn55 _ _ ?_
          refine got hn ?_
          refine qr52 _ _ ?_
          obtain rfl := Option.some.inj h
          exact ⟨[], _, rfl, (by repeat (first | exact trivial | exact rfl | (refine And.intro ?_ ?_))), trivial, rfl, rfl, rfl, rfl, rfl⟩
        · refine gok hn ?_
          refine qn52 _ _ ?_
          refine COk.seqQ fun Q56 qn56 qx56 qr56 => ?_
          refine COk.sub (ts2 := []) (os2 := []) [] ⟨trivial, trivial, rfl, rfl⟩ (by rw [hn]; rfl) ?_
          refine gor hn ?_
          refine qn56 _ _ ?_
          refine got hn ?_
          obtain rfl := Option.some.inj h
          exact ⟨[], _, rfl, (by repeat (first | exact trivial | exact rfl | (refine And.intro ?_ ?_))), trivial, rfl, rfl, rfl, rfl, rfl⟩
end Go.Proofs.Ytoceeiamcfdnlaa
