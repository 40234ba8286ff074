/- Walks after the mirrors. Printed by mir.py. -/
import Derived.Test.YtioalgofaiideaaWk1
namespace Go.Proofs.Ytioalgofaiideaa
open Go.RowKit
set_option linter.unusedVariables false
/- qcref1.Count -/
set_option maxRecDepth 100000 in
set_option maxHeartbeats 1000000 in
theorem qcref1_Count_ok (N : Nat) (a0 : (List Tl)) (a1 : St) (a2 : Int) (r : (List Tl)) (h : qcref1_Count N a0 a1 a2 = some r) : Spec Try.prog 18 [] [.sl 4 (List.map eTl a0), .agg (eSt a1), .int a2] (.own 0) [(0, .row 4 (List.map eTl r) 27)] [0] := by
  refine Spec.of tabOk Try.func18 rfl Try.ntmps18 (by kernel_rfl) rfl rfl rfl fun Γ hn => ?_
  unfold qcref1_Count at h
  refine COk.seqQ fun Q3630 qn3630 qx3630 qr3630 => ?_
  refine gor hn ?_
  refine qn3630 _ _ ?_
  refine COk.seqQ fun Q3631 qn3631 qx3631 qr3631 => ?_
  refine gor hn ?_
  refine qn3631 _ _ ?_
  refine COk.seqQ fun Q3632 qn3632 qx3632 qr3632 => ?_
  refine gor hn ?_
  refine qn3632 _ _ ?_
  refine COk.seqQ fun Q3633 qn3633 qx3633 qr3633 => ?_
  refine COk.seqQ fun Q3634 qn3634 qx3634 qr3634 => ?_
  refine gor hn ?_
  refine lenM (fun hl1 => ?_)
  refine qn3634 _ _ ?_
  refine COk.nilrow 7 207 4 27 rfl rfl rfl ?_
  obtain ⟨o9, h10, h⟩ := bindM h
  refine COk.joinR (ι := { s : ((List Tl) × Bool) // o9 = s }) (fun s => [(2, .int a2), (4, .ptr 4 0), (7, .own 207), (8, .bool s.1.2)]) (fun s => [(4, .box (eSt a1) 24), (207, .row 4 (List.map eTl s.1.1) 27)]) (fun Q6527 qn6527 qx6527 qr6527 => ?_) (by intro s; rw [hn]; rfl) ?_
  · refine COk.blkQ fun Q6528 qn6528 qe6528 qx6528 qr6528 => ?_
    refine COk.loopQ (ι := { q : ((List Tl) × Nat × (List Tl) × Bool) // q.1 = a0.drop q.2.1 ∧ qcref1_Count_l1 N a1 a2 q.1 q.2.1 q.2.2.1 q.2.2.2 = some o9 }) (fun q => [(2, .int a2), (4, .ptr 4 0), (7, .own 207), (8, .bool q.1.2.2.2), (15, .sl 4 (List.map eTl a0)), (16, .int (a0.length : Int)), (17, .int (q.1.2.1 : Int))]) (fun q => [(4, .box (eSt a1) 24), (207, .row 4 (List.map eTl q.1.2.2.1) 27)]) (fun q => q.1.1.length) ⟨(a0, 0, ([] : List Tl), false), rfl, h10⟩ [] ⟨⟨rfl, rfl, rfl, rfl, (by repeat (first | exact trivial | exact rfl | (refine And.intro ?_ ?_))), rfl, rfl, trivial⟩, ⟨rfl, rfl, trivial⟩, rfl, rfl⟩ (by intro q; rw [hn]; rfl) ?_
    rintro ⟨⟨rest_, k2, v3, v4⟩, hd12, h10⟩ Q6529 qn6529 qx6529 qr6529
    replace hd12 : rest_ = a0.drop k2 := hd12
    rcases rest_ with _ | ⟨x14, rest11⟩
    · have hlt16 := restNil hd12
      replace h10 := (qcref1_Count_l1.eq_1 _ _ _ _ _ _).symm.trans h10
      refine COk.seqQ fun Q6530 qn6530 qx6530 qr6530 => ?_
      refine gor hn ?_
      refine qn6530 _ _ ?_
      refine COk.seqQ fun Q6531 qn6531 qx6531 qr6531 => ?_
      refine goc hn ?_
      refine bselF hlt16 ?_
      refine goe hn ?_
      refine qx6531 _ _ _ ?_
      refine qx6529 _ _ _ ?_
      refine qe6528 _ _ ?_
      refine qn6527 _ _ ?_
      obtain rfl := Option.some.inj h10
      refine EOk.done ?_
      exact ⟨⟨_, rfl⟩, [], trivial, ⟨⟨rfl, rfl, rfl, rfl, trivial⟩, ⟨rfl, rfl, trivial⟩, rfl, rfl⟩⟩
    · obtain ⟨hx15, hd2, hlt16⟩ := restCons hd12
      replace h10 := (qcref1_Count_l1.eq_2 _ _ _ _ _ _ _ _).symm.trans h10
      refine COk.seqQ fun Q6532 qn6532 qx6532 qr6532 => ?_
      refine gor hn ?_
      refine qn6532 _ _ ?_
      refine COk.seqQ fun Q6533 qn6533 qx6533 qr6533 => ?_
      refine goc hn ?_
      refine bselT hlt16 ?_
      refine gok hn ?_
      refine qn6533 _ _ ?_
      refine COk.seqQ fun Q6534 qn6534 qx6534 qr6534 => ?_
      refine COk.blkQ fun Q6895 qn6895 qe6895 qx6895 qr6895 => ?_
      refine COk.seqQ fun Q6896 qn6896 qx6896 qr6896 => ?_
      refine gor hn ?_
      refine idxK hx15 ?_
      refine qn6896 _ _ ?_
      refine COk.seqQ fun Q6897 qn6897 qx6897 qr6897 => ?_
      refine COk.seqQ fun Q6898 qn6898 qx6898 qr6898 => ?_
      obtain ⟨o19, h18, h10⟩ := bindM h10
      refine COk.joinR (ι := { s : Bool // o19 = s }) (fun s => [(2, .int a2), (4, .ptr 4 0), (7, .own 207), (8, .bool v4), (10, .ptr 10 0), (15, .sl 4 (List.map eTl a0)), (16, .int (a0.length : Int)), (17, .int (k2 : Int)), (28, .bool s.1)]) (fun s => [(4, .box (eSt a1) 24), (10, .box (eTl x14) 27), (207, .row 4 (List.map eTl v3) 27)]) (fun Q6899 qn6899 qx6899 qr6899 => ?_) (by intro s; rw [hn]; rfl) ?_
      · refine gor hn ?_
        refine bselM h18 (fun hb20 h18 => ?_) (fun hb20 h18 => ?_)
        · refine bselT hb20 ?_
          refine bselT hb20 ?_
          refine qn6899 _ _ ?_
          obtain rfl := Option.some.inj h18
          refine EOk.done ?_
          exact ⟨⟨_, rfl⟩, [], trivial, ⟨⟨rfl, rfl, rfl, rfl, rfl, (by repeat (first | exact trivial | exact rfl | (refine And.intro ?_ ?_))), rfl, rfl, rfl, trivial⟩, ⟨rfl, rfl, rfl, trivial⟩, rfl, rfl⟩⟩
        · refine bselF hb20 ?_
          refine bselF hb20 ?_
          refine qn6899 _ _ ?_
          obtain rfl := Option.some.inj h18
          refine EOk.done ?_
          exact ⟨⟨_, rfl⟩, [], trivial, ⟨⟨rfl, rfl, rfl, rfl, rfl, (by repeat (first | exact trivial | exact rfl | (refine And.intro ?_ ?_))), rfl, rfl, rfl, trivial⟩, ⟨rfl, rfl, rfl, trivial⟩, rfl, rfl⟩⟩
      rintro ⟨v17, hv_⟩
      replace hv_ := hv_.symm
      subst hv_
      refine qn6898 _ _ ?_
      obtain ⟨o24, h23, h10⟩ := bindM h10
      refine COk.joinR (ι := { s : (Bool × Tl) // o24 = s }) (fun s => [(2, .int a2), (4, .ptr 4 0), (7, .own 207), (8, .bool s.1.1), (10, .ptr 10 0), (15, .sl 4 (List.map eTl a0)), (16, .int (a0.length : Int)), (17, .int (k2 : Int))]) (fun s => [(4, .box (eSt a1) 24), (10, .box (eTl s.1.2) 27), (207, .row 4 (List.map eTl v3) 27)]) (fun Q7136 qn7136 qx7136 qr7136 => ?_) (by intro s; rw [hn]; rfl) ?_
      · refine goc hn ?_
        refine bselM h23 (fun hb25 h23 => ?_) (fun hb25 h23 => ?_)
        · refine COk.seqQ fun Q7137 qn7137 qx7137 qr7137 => ?_
          refine gor hn ?_
          refine qn7137 _ _ ?_
          refine COk.seqQ fun Q7138 qn7138 qx7138 qr7138 => ?_
          refine gor hn ?_
          refine qn7138 _ _ ?_
          refine COk.seqQ fun Q7139 qn7139 qx7139 qr7139 => ?_
          refine gor hn ?_
          refine qn7139 _ _ ?_
          refine COk.seqQ fun Q7140 qn7140 qx7140 qr7140 => ?_
          refine COk.seqQ fun Q7141 qn7141 qx7141 qr7141 => ?_
          refine gor hn ?_
          refine lenM (fun hl26 => ?_)
          refine qn7141 _ _ ?_
          refine COk.nilrow 11 211 2 29 rfl rfl rfl ?_
          obtain ⟨o34, h35, h23⟩ := bindM h23
          refine COk.joinR (ι := { s : ((List Ln) × Bool) // o34 = s }) (fun s => [(2, .int a2), (4, .ptr 4 0), (7, .own 207), (8, .bool true), (10, .ptr 10 0), (11, .own 211), (12, .bool s.1.2), (15, .sl 4 (List.map eTl a0)), (16, .int (a0.length : Int)), (17, .int (k2 : Int))]) (fun s => [(4, .box (eSt a1) 24), (10, .box (eTl x14) 27), (207, .row 4 (List.map eTl v3) 27), (211, .row 2 (List.map eLn s.1.1) 29)]) (fun Q7226 qn7226 qx7226 qr7226 => ?_) (by intro s; rw [hn]; rfl) ?_
          · refine COk.blkQ fun Q7227 qn7227 qe7227 qx7227 qr7227 => ?_
            refine COk.loopQ (ι := { q : ((List Ln) × Nat × (List Ln) × Bool) // q.1 = x14.classes.drop q.2.1 ∧ qcref1_Count_l2 N a2 q.1 q.2.1 q.2.2.1 q.2.2.2 = some o34 }) (fun q => [(2, .int a2), (4, .ptr 4 0), (7, .own 207), (8, .bool true), (10, .ptr 10 0), (11, .own 211), (12, .bool q.1.2.2.2), (15, .sl 4 (List.map eTl a0)), (16, .int (a0.length : Int)), (17, .int (k2 : Int)), (30, .sl 2 (List.map eLn x14.classes)), (31, .int (x14.classes.length : Int)), (32, .int (q.1.2.1 : Int))]) (fun q => [(4, .box (eSt a1) 24), (10, .box (eTl x14) 27), (207, .row 4 (List.map eTl v3) 27), (211, .row 2 (List.map eLn q.1.2.2.1) 29)]) (fun q => q.1.1.length) ⟨(x14.classes, 0, ([] : List Ln), false), rfl, h35⟩ [] ⟨⟨rfl, rfl, rfl, rfl, rfl, rfl, rfl, (by repeat (first | exact trivial | exact rfl | (refine And.intro ?_ ?_))), rfl, rfl, (by repeat (first | exact trivial | exact rfl | (refine And.intro ?_ ?_))), rfl, rfl, trivial⟩, ⟨rfl, rfl, rfl, rfl, trivial⟩, rfl, rfl⟩ (by intro q; rw [hn]; rfl) ?_
            rintro ⟨⟨rest_, k27, v28, v29⟩, hd37, h35⟩ Q7228 qn7228 qx7228 qr7228
            replace hd37 : rest_ = x14.classes.drop k27 := hd37
            rcases rest_ with _ | ⟨x39, rest36⟩
            · have hlt41 := restNil hd37
              replace h35 := (qcref1_Count_l2.eq_1 _ _ _ _ _).symm.trans h35
              refine COk.seqQ fun Q7229 qn7229 qx7229 qr7229 => ?_
              refine gor hn ?_
              refine qn7229 _ _ ?_
              refine COk.seqQ fun Q7230 qn7230 qx7230 qr7230 => ?_
              refine goc hn ?_
              refine bselF hlt41 ?_
              refine goe hn ?_
              refine qx7230 _ _ _ ?_
              refine qx7228 _ _ _ ?_
              refine qe7227 _ _ ?_
              refine qn7226 _ _ ?_
              obtain rfl := Option.some.inj h35
              refine EOk.done ?_
              exact ⟨⟨_, rfl⟩, [], trivial, ⟨⟨rfl, rfl, rfl, rfl, rfl, rfl, rfl, (by repeat (first | exact trivial | exact rfl | (refine And.intro ?_ ?_))), rfl, rfl, trivial⟩, ⟨rfl, rfl, rfl, rfl, trivial⟩, rfl, rfl⟩⟩
            · obtain ⟨hx40, hd2, hlt41⟩ := restCons hd37
              replace h35 := (qcref1_Count_l2.eq_2 _ _ _ _ _ _ _).symm.trans h35
              refine COk.seqQ fun Q7231 qn7231 qx7231 qr7231 => ?_
              refine gor hn ?_
              refine qn7231 _ _ ?_
              refine COk.seqQ fun Q7232 qn7232 qx7232 qr7232 => ?_
              refine goc hn ?_
              refine bselT hlt41 ?_
              refine gok hn ?_
              refine qn7232 _ _ ?_
              refine COk.seqQ fun Q7233 qn7233 qx7233 qr7233 => ?_
              refine COk.blkQ fun Q7243 qn7243 qe7243 qx7243 qr7243 => ?_
              refine COk.seqQ fun Q7244 qn7244 qx7244 qr7244 => ?_
              refine gor hn ?_
              refine idxK hx40 ?_
              refine qn7244 _ _ ?_
              refine COk.seqQ fun Q7245 qn7245 qx7245 qr7245 => ?_
              refine COk.seqQ fun Q7246 qn7246 qx7246 qr7246 => ?_
              obtain ⟨o44, h43, h35⟩ := bindM h35
              refine COk.joinR (ι := { s : Bool // o44 = s }) (fun s => [(2, .int a2), (4, .ptr 4 0), (7, .own 207), (8, .bool true), (10, .ptr 10 0), (11, .own 211), (12, .bool v29), (14, .ptr 14 0), (15, .sl 4 (List.map eTl a0)), (16, .int (a0.length : Int)), (17, .int (k2 : Int)), (30, .sl 2 (List.map eLn x14.classes)), (31, .int (x14.classes.length : Int)), (32, .int (k27 : Int)), (43, .bool s.1)]) (fun s => [(4, .box (eSt a1) 24), (10, .box (eTl x14) 27), (14, .box (eLn x39) 29), (207, .row 4 (List.map eTl v3) 27), (211, .row 2 (List.map eLn v28) 29)]) (fun Q7247 qn7247 qx7247 qr7247 => ?_) (by intro s; rw [hn]; rfl) ?_
              · refine COk.sub (ts2 := [(2, .int a2), (4, .ptr 4 0), (7, .own 207), (8, .bool true), (10, .ptr 10 0), (11, .own 211), (12, .bool v29), (14, .ptr 14 0), (15, .sl 4 (List.map eTl a0)), (16, .int (a0.length : Int)), (17, .int (k2 : Int)), (30, .sl 2 (List.map eLn x14.classes)), (31, .int (x14.classes.length : Int)), (32, .int (k27 : Int))]) (os2 := [(4, .box (eSt a1) 24), (10, .box (eTl x14) 27), (14, .box (eLn x39) 29), (207, .row 4 (List.map eTl v3) 27), (211, .row 2 (List.map eLn v28) 29)]) [] ⟨⟨rfl, rfl, rfl, rfl, rfl, rfl, rfl, rfl, (by repeat (first | exact trivial | exact rfl | (refine And.intro ?_ ?_))), rfl, rfl, (by repeat (first | exact trivial | exact rfl | (refine And.intro ?_ ?_))), rfl, rfl, trivial⟩, ⟨rfl, rfl, rfl, rfl, rfl, trivial⟩, rfl, rfl⟩ (by rw [hn]; rfl) ?_
                refine gor hn ?_
                refine bselM h43 (fun hb45 h43 => ?_) (fun hb45 h43 => ?_)
                · refine bselT hb45 ?_
                  refine bselT hb45 ?_
                  refine qn7247 _ _ ?_
                  obtain rfl := Option.some.inj h43
                  refine EOk.done ?_
                  exact ⟨⟨_, rfl⟩, [], trivial, ⟨⟨rfl, rfl, rfl, rfl, rfl, rfl, rfl, rfl, (by repeat (first | exact trivial | exact rfl | (refine And.intro ?_ ?_))), rfl, rfl, (by repeat (first | exact trivial | exact rfl | (refine And.intro ?_ ?_))), rfl, rfl, rfl, trivial⟩, ⟨rfl, rfl, rfl, rfl, rfl, trivial⟩, rfl, rfl⟩⟩
                · refine bselF hb45 ?_
                  refine bselF hb45 ?_
                  refine qn7247 _ _ ?_
                  obtain rfl := Option.some.inj h43
                  refine EOk.done ?_
                  exact ⟨⟨_, rfl⟩, [], trivial, ⟨⟨rfl, rfl, rfl, rfl, rfl, rfl, rfl, rfl, (by repeat (first | exact trivial | exact rfl | (refine And.intro ?_ ?_))), rfl, rfl, (by repeat (first | exact trivial | exact rfl | (refine And.intro ?_ ?_))), rfl, rfl, rfl, trivial⟩, ⟨rfl, rfl, rfl, rfl, rfl, trivial⟩, rfl, rfl⟩⟩
              rintro ⟨v42, hv_⟩
              replace hv_ := hv_.symm
              subst hv_
              refine qn7246 _ _ ?_
              obtain ⟨o49, h48, h35⟩ := bindM h35
              refine COk.joinR (ι := { s : (Bool × Ln) // o49 = s }) (fun s => [(2, .int a2), (4, .ptr 4 0), (7, .own 207), (8, .bool true), (10, .ptr 10 0), (11, .own 211), (12, .bool s.1.1), (14, .ptr 14 0), (15, .sl 4 (List.map eTl a0)), (16, .int (a0.length : Int)), (17, .int (k2 : Int)), (30, .sl 2 (List.map eLn x14.classes)), (31, .int (x14.classes.length : Int)), (32, .int (k27 : Int))]) (fun s => [(4, .box (eSt a1) 24), (10, .box (eTl x14) 27), (14, .box (eLn s.1.2) 29), (207, .row 4 (List.map eTl v3) 27), (211, .row 2 (List.map eLn v28) 29)]) (fun Q7250 qn7250 qx7250 qr7250 => ?_) (by intro s; rw [hn]; rfl) ?_
              · refine goc hn ?_
                refine bselM h48 (fun hb50 h48 => ?_) (fun hb50 h48 => ?_)
                · refine COk.seqQ fun Q7251 qn7251 qx7251 qr7251 => ?_
                  refine gor hn ?_
                  refine Or.inr ?_
                  refine qn7251 _ _ ?_
                  refine COk.sub (ts2 := [(2, .int a2), (4, .ptr 4 0), (7, .own 207), (8, .bool true), (10, .ptr 10 0), (11, .own 211), (14, .ptr 14 0), (15, .sl 4 (List.map eTl a0)), (16, .int (a0.length : Int)), (17, .int (k2 : Int)), (30, .sl 2 (List.map eLn x14.classes)), (31, .int (x14.classes.length : Int)), (32, .int (k27 : Int))]) (os2 := [(4, .box (eSt a1) 24), (10, .box (eTl x14) 27), (14, .box [.int x39.cls, .int (wr (x39.found + (1 : Int)))] 29), (207, .row 4 (List.map eTl v3) 27), (211, .row 2 (List.map eLn v28) 29)]) [] ⟨⟨rfl, rfl, rfl, rfl, rfl, rfl, rfl, (by repeat (first | exact trivial | exact rfl | (refine And.intro ?_ ?_))), rfl, rfl, (by repeat (first | exact trivial | exact rfl | (refine And.intro ?_ ?_))), rfl, rfl, trivial⟩, ⟨rfl, rfl, rfl, rfl, rfl, trivial⟩, rfl, rfl⟩ (by rw [hn]; rfl) ?_
                  refine gor hn ?_
                  refine qn7250 _ _ ?_
                  obtain rfl := Option.some.inj h48
                  refine EOk.done ?_
                  exact ⟨⟨_, rfl⟩, [], trivial, ⟨⟨rfl, rfl, rfl, rfl, rfl, rfl, rfl, rfl, (by repeat (first | exact trivial | exact rfl | (refine And.intro ?_ ?_))), rfl, rfl, (by repeat (first | exact trivial | exact rfl | (refine And.intro ?_ ?_))), rfl, rfl, trivial⟩, ⟨rfl, rfl, rfl, rfl, rfl, trivial⟩, rfl, rfl⟩⟩
                · refine gok hn ?_
                  refine qn7250 _ _ ?_
                  obtain rfl := Option.some.inj h48
                  refine EOk.done ?_
                  exact ⟨⟨_, rfl⟩, [], trivial, ⟨⟨rfl, rfl, rfl, rfl, rfl, rfl, rfl, rfl, (by repeat (first | exact trivial | exact rfl | (refine And.intro ?_ ?_))), rfl, rfl, (by repeat (first | exact trivial | exact rfl | (refine And.intro ?_ ?_))), rfl, rfl, trivial⟩, ⟨rfl, rfl, rfl, rfl, rfl, trivial⟩, rfl, rfl⟩⟩
              rintro ⟨⟨v46, v47⟩, rfl⟩
              refine qn7245 _ _ ?_
              refine gor hn ?_
              refine Exists.intro (List.map eLn [v47]) (And.intro (by repeat (first | exact trivial | exact rfl | (refine And.intro ?_ ?_))) ?_)
              obtain ⟨hg51, h35⟩ := guardM h35
              refine appM (l2 := [v47]) hg51 (leLs_refl _) ?_
              refine qn7243 _ _ ?_
              refine qn7233 _ _ ?_
              refine COk.sub (ts2 := [(2, .int a2), (4, .ptr 4 0), (7, .own 207), (8, .bool true), (10, .ptr 10 0), (11, .own 51), (12, .bool v46), (15, .sl 4 (List.map eTl a0)), (16, .int (a0.length : Int)), (17, .int (k2 : Int)), (30, .sl 2 (List.map eLn x14.classes)), (31, .int (x14.classes.length : Int)), (32, .int (k27 : Int))]) (os2 := [(4, .box (eSt a1) 24), (10, .box (eTl x14) 27), (51, .row 2 (List.map eLn (v28 ++ [v47])) 29), (207, .row 4 (List.map eTl v3) 27)]) [] ⟨⟨rfl, rfl, rfl, rfl, rfl, rfl, rfl, (by repeat (first | exact trivial | exact rfl | (refine And.intro ?_ ?_))), rfl, rfl, (by repeat (first | exact trivial | exact rfl | (refine And.intro ?_ ?_))), rfl, rfl, trivial⟩, ⟨rfl, rfl, rfl, rfl, trivial⟩, rfl, rfl⟩ (by rw [hn]; rfl) ?_
              refine gor hn ?_
              refine Or.inl (And.intro (inrK hx40 hl26) ?_)
              refine qn7228 _ _ ?_
              refine EOk.done ?_
              exact ⟨⟨(rest36, k27 + 1, (v28 ++ [v47]), v46), hd2, h35⟩, [(211, 51)], by show rest36.length < rest36.length + 1; omega, ⟨⟨rfl, rfl, rfl, rfl, rfl, rfl, rfl, (by repeat (first | exact trivial | exact rfl | (refine And.intro ?_ ?_))), rfl, rfl, (by repeat (first | exact trivial | exact rfl | (refine And.intro ?_ ?_))), rfl, rfl, trivial⟩, ⟨rfl, rfl, rfl, rfl, trivial⟩, rfl, rfl⟩⟩
          rintro ⟨⟨v32, v33⟩, rfl⟩
          refine qn7140 _ _ ?_
          refine COk.seqQ fun Q7252 qn7252 qx7252 qr7252 => ?_
          refine COk.seqQ fun Q7253 qn7253 qx7253 qr7253 => ?_
          refine gor hn ?_
          refine qn7253 _ _ ?_
          obtain ⟨o54, h53, h23⟩ := bindM h23
          refine COk.joinR (ι := { s : (List Ln) // o54 = s }) (fun s => [(2, .int a2), (4, .ptr 4 0), (7, .own 207), (8, .bool true), (10, .ptr 10 0), (11, .own 59), (15, .sl 4 (List.map eTl a0)), (16, .int (a0.length : Int)), (17, .int (k2 : Int))]) (fun s => [(4, .box (eSt a1) 24), (10, .box (eTl x14) 27), (59, .row 2 (List.map eLn s.1) 29), (207, .row 4 (List.map eTl v3) 27)]) (fun Q7254 qn7254 qx7254 qr7254 => ?_) (by intro s; rw [hn]; rfl) ?_
          · refine goc hn ?_
            refine bselM h53 (fun hb55 h53 => ?_) (fun hb55 h53 => ?_)
            · refine gor hn ?_
              refine Exists.intro (List.map eLn [(⟨a2, (1 : Int)⟩ : Ln)]) (And.intro (by repeat (first | exact trivial | exact rfl | (refine And.intro ?_ ?_))) ?_)
              obtain ⟨hg56, h53⟩ := guardM h53
              refine appM (l2 := [(⟨a2, (1 : Int)⟩ : Ln)]) hg56 (leLs_refl _) ?_
              refine qn7254 _ _ ?_
              obtain rfl := Option.some.inj h53
              refine EOk.done ?_
              exact ⟨⟨_, rfl⟩, [], trivial, ⟨⟨rfl, rfl, rfl, rfl, rfl, rfl, (by repeat (first | exact trivial | exact rfl | (refine And.intro ?_ ?_))), rfl, rfl, trivial⟩, ⟨rfl, rfl, rfl, rfl, trivial⟩, rfl, rfl⟩⟩
            · refine gok hn ?_
              refine qn7254 _ _ ?_
              obtain rfl := Option.some.inj h53
              refine EOk.done ?_
              exact ⟨⟨_, rfl⟩, [(59, 211)], trivial, ⟨⟨rfl, rfl, rfl, rfl, rfl, rfl, (by repeat (first | exact trivial | exact rfl | (refine And.intro ?_ ?_))), rfl, rfl, trivial⟩, ⟨rfl, rfl, rfl, rfl, trivial⟩, rfl, rfl⟩⟩
          rintro ⟨v52, hv_⟩
          replace hv_ := hv_.symm
          subst hv_
          refine qn7252 _ _ ?_
          refine gor hn ?_
          refine qn7136 _ _ ?_
          obtain rfl := Option.some.inj h23
          refine EOk.fzAll 59 rfl ?_
          refine EOk.done ?_
          exact ⟨⟨_, rfl⟩, [], trivial, ⟨⟨rfl, rfl, rfl, rfl, rfl, (by repeat (first | exact trivial | exact rfl | (refine And.intro ?_ ?_))), rfl, rfl, trivial⟩, ⟨rfl, rfl, rfl, trivial⟩, rfl, rfl⟩⟩
        · refine gok hn ?_
          refine qn7136 _ _ ?_
          obtain rfl := Option.some.inj h23
          refine EOk.done ?_
          exact ⟨⟨_, rfl⟩, [], trivial, ⟨⟨rfl, rfl, rfl, rfl, rfl, (by repeat (first | exact trivial | exact rfl | (refine And.intro ?_ ?_))), rfl, rfl, trivial⟩, ⟨rfl, rfl, rfl, trivial⟩, rfl, rfl⟩⟩
      rintro ⟨⟨v21, v22⟩, rfl⟩
      refine qn6897 _ _ ?_
      refine gor hn ?_
      refine Exists.intro (List.map eTl [v22]) (And.intro (by repeat (first | exact trivial | exact rfl | (refine And.intro ?_ ?_))) ?_)
      obtain ⟨hg57, h10⟩ := guardM h10
      refine appM (l2 := [v22]) hg57 (leLs_refl _) ?_
      refine qn6895 _ _ ?_
      refine qn6534 _ _ ?_
      refine gor hn ?_
      refine Or.inl (And.intro (inrK hx15 hl1) ?_)
      refine qn6529 _ _ ?_
      refine EOk.done ?_
      exact ⟨⟨(rest11, k2 + 1, (v3 ++ [v22]), v21), hd2, h10⟩, [(207, 65)], by show rest11.length < rest11.length + 1; omega, ⟨⟨rfl, rfl, rfl, rfl, (by repeat (first | exact trivial | exact rfl | (refine And.intro ?_ ?_))), rfl, rfl, trivial⟩, ⟨rfl, rfl, trivial⟩, rfl, rfl⟩⟩
  rintro ⟨⟨v7, v8⟩, rfl⟩
  refine qn3633 _ _ ?_
  refine COk.seqQ fun Q7255 qn7255 qx7255 qr7255 => ?_
  refine COk.seqQ fun Q7256 qn7256 qx7256 qr7256 => ?_
  refine gor hn ?_
  refine qn7256 _ _ ?_
  obtain ⟨o60, h59, h⟩ := bindM h
  refine COk.joinR (ι := { s : (List Tl) // o60 = s }) (fun s => [(7, .own 76)]) (fun s => [(76, .row 4 (List.map eTl s.1) 27)]) (fun Q7257 qn7257 qx7257 qr7257 => ?_) (by intro s; rw [hn]; rfl) ?_
  · refine goc hn ?_
    refine bselM h59 (fun hb61 h59 => ?_) (fun hb61 h59 => ?_)
    · refine gor hn ?_
      refine Exists.intro (List.map eLn [(⟨a2, (1 : Int)⟩ : Ln)]) (And.intro (by repeat (first | exact trivial | exact rfl | (refine And.intro ?_ ?_))) ?_)
      refine Exists.intro (List.map eTl [(⟨a1, [(⟨a2, (1 : Int)⟩ : Ln)]⟩ : Tl)]) (And.intro (by repeat (first | exact trivial | exact rfl | (refine And.intro ?_ ?_))) ?_)
      obtain ⟨hg62, h59⟩ := guardM h59
      refine appM (l2 := [(⟨a1, [(⟨a2, (1 : Int)⟩ : Ln)]⟩ : Tl)]) hg62 (leLs_refl _) ?_
      refine qn7257 _ _ ?_
      obtain rfl := Option.some.inj h59
      refine EOk.done ?_
      exact ⟨⟨_, rfl⟩, [], trivial, ⟨⟨rfl, trivial⟩, ⟨rfl, trivial⟩, rfl, rfl⟩⟩
    · refine gok hn ?_
      refine qn7257 _ _ ?_
      obtain rfl := Option.some.inj h59
      refine EOk.done ?_
      exact ⟨⟨_, rfl⟩, [(76, 207)], trivial, ⟨⟨rfl, trivial⟩, ⟨rfl, trivial⟩, rfl, rfl⟩⟩
  rintro ⟨v58, hv_⟩
  replace hv_ := hv_.symm
  subst hv_
  refine qn7255 _ _ ?_
  refine COk.seqQ fun Q7258 qn7258 qx7258 qr7258 => ?_
  refine gor hn ?_
  refine qn7258 _ _ ?_
  refine got hn ?_
  obtain rfl := Option.some.inj h
  exact ⟨[(0, 76)], _, rfl, (by repeat (first | exact trivial | exact rfl | (refine And.intro ?_ ?_))), ⟨rfl, trivial⟩, rfl, rfl, rfl, rfl, rfl⟩

/- qcref1.SameLines -/
set_option maxRecDepth 100000 in
set_option maxHeartbeats 1000000 in
theorem qcref1_SameLines_ok (N : Nat) (a0 : (List Ln)) (a1 : (List Ln)) (r : Bool) (h : qcref1_SameLines N a0 a1 = some r) : Spec Try.prog 54 [] [.sl 2 (List.map eLn a0), .sl 2 (List.map eLn a1)] (.bool r) [] [] := by
  refine Spec.of tabOk Try.func54 rfl Try.ntmps54 (by kernel_rfl) rfl rfl rfl fun Γ hn => ?_
  unfold qcref1_SameLines at h
  refine COk.seqQ fun Q53 qn53 qx53 qr53 => ?_
  refine gor hn ?_
  refine qn53 _ _ ?_
  refine COk.seqQ fun Q54 qn54 qx54 qr54 => ?_
  refine COk.seqQ fun Q55 qn55 qx55 qr55 => ?_
  refine gor hn ?_
  refine lenM (fun hl1 => ?_)
  refine lenM (fun hl2 => ?_)
  refine qn55 _ _ ?_
  refine goc hn ?_
  refine bselM h (fun hb3 h => ?_) (fun hb3 h => ?_)
  · refine COk.seqQ fun Q57 qn57 qx57 qr57 => ?_
    refine gor hn ?_
    refine qn57 _ _ ?_
    refine got hn ?_
    refine qr54 _ _ ?_
    obtain rfl := Option.some.inj h
    exact ⟨[], _, rfl, (by repeat (first | exact trivial | exact rfl | (refine And.intro ?_ ?_))), trivial, rfl, rfl, rfl, rfl, rfl⟩
  · refine gok hn ?_
    refine qn54 _ _ ?_
    refine COk.seqQ fun Q58 qn58 qx58 qr58 => ?_
    refine COk.seqQ fun Q59 qn59 qx59 qr59 => ?_
    refine gor hn ?_
    refine lenM (fun hl4 => ?_)
    refine qn59 _ _ ?_
    obtain ⟨o6, h7, h⟩ := bindM h
    refine COk.joinR (ι := { s : Unit // o6 = Ctl.next s }) (fun s => []) (fun s => []) (fun Q86 qn86 qx86 qr86 => ?_) (by intro s; rw [hn]; rfl) ?_
    · refine COk.blkQ fun Q87 qn87 qe87 qx87 qr87 => ?_
      refine COk.loopQ (ι := { q : ((List Ln) × Nat) // q.1 = a0.drop q.2 ∧ qcref1_SameLines_l1 N a1 q.1 q.2 = some o6 }) (fun q => [(0, .sl 2 (List.map eLn a0)), (1, .sl 2 (List.map eLn a1)), (12, .int (a0.length : Int)), (13, .int (q.1.2 : Int))]) (fun q => []) (fun q => q.1.1.length) ⟨(a0, 0), rfl, h7⟩ [] ⟨⟨(by repeat (first | exact trivial | exact rfl | (refine And.intro ?_ ?_))), (by repeat (first | exact trivial | exact rfl | (refine And.intro ?_ ?_))), rfl, rfl, trivial⟩, trivial, rfl, rfl⟩ (by intro q; rw [hn]; rfl) ?_
      rintro ⟨⟨rest_, k5⟩, hd9, h7⟩ Q88 qn88 qx88 qr88
      replace hd9 : rest_ = a0.drop k5 := hd9
      rcases rest_ with _ | ⟨x11, rest8⟩
      · have hlt13 := restNil hd9
        replace h7 := (qcref1_SameLines_l1.eq_1 _ _ _).symm.trans h7
        refine COk.seqQ fun Q89 qn89 qx89 qr89 => ?_
        refine gor hn ?_
        refine qn89 _ _ ?_
        refine COk.seqQ fun Q90 qn90 qx90 qr90 => ?_
        refine goc hn ?_
        refine bselF hlt13 ?_
        refine goe hn ?_
        refine qx90 _ _ _ ?_
        refine qx88 _ _ _ ?_
        refine qe87 _ _ ?_
        refine qn86 _ _ ?_
        obtain rfl := Option.some.inj h7
        refine EOk.done ?_
        exact ⟨⟨_, rfl⟩, [], trivial, ⟨trivial, trivial, rfl, rfl⟩⟩
      · obtain ⟨hx12, hd2, hlt13⟩ := restCons hd9
        replace h7 := (qcref1_SameLines_l1.eq_2 _ _ _ _ _).symm.trans h7
        refine COk.seqQ fun Q91 qn91 qx91 qr91 => ?_
        refine gor hn ?_
        refine qn91 _ _ ?_
        refine COk.seqQ fun Q92 qn92 qx92 qr92 => ?_
        refine goc hn ?_
        refine bselT hlt13 ?_
        refine gok hn ?_
        refine qn92 _ _ ?_
        refine COk.seqQ fun Q93 qn93 qx93 qr93 => ?_
        refine COk.blkQ fun Q99 qn99 qe99 qx99 qr99 => ?_
        refine COk.seqQ fun Q100 qn100 qx100 qr100 => ?_
        refine gor hn ?_
        refine qn100 _ _ ?_
        refine COk.seqQ fun Q101 qn101 qx101 qr101 => ?_
        refine god hn (by kernel_rfl) ?_
        refine idxK hx12 ?_
        obtain ⟨x14, hx15, h7⟩ := bindM h7
        refine idxM hx15 ?_
        refine qn101 _ _ ?_
        refine goc hn ?_
        refine bselM h7 (fun hb16 h7 => ?_) (fun hb16 h7 => ?_)
        · refine COk.seqQ fun Q103 qn103 qx103 qr103 => ?_
          refine gor hn ?_
          refine qn103 _ _ ?_
          refine got hn ?_
          refine qr99 _ _ ?_
          refine qr93 _ _ ?_
          refine qr88 _ _ ?_
          refine qr87 _ _ ?_
          refine qr86 _ _ ?_
          refine qr58 _ _ ?_
          obtain rfl := Option.some.inj h7
          obtain rfl := Option.some.inj h
          exact ⟨[], _, rfl, (by repeat (first | exact trivial | exact rfl | (refine And.intro ?_ ?_))), trivial, rfl, rfl, rfl, rfl, rfl⟩
        · refine gok hn ?_
          refine qn99 _ _ ?_
          refine qn93 _ _ ?_
          refine gor hn ?_
          refine Or.inl (And.intro (inrK hx12 hl4) ?_)
          refine qn88 _ _ ?_
          refine EOk.done ?_
          exact ⟨⟨(rest8, k5 + 1), hd2, h7⟩, [], by show rest8.length < rest8.length + 1; omega, ⟨⟨(by repeat (first | exact trivial | exact rfl | (refine And.intro ?_ ?_))), (by repeat (first | exact trivial | exact rfl | (refine And.intro ?_ ?_))), rfl, rfl, trivial⟩, trivial, rfl, rfl⟩⟩
    rintro ⟨⟨⟩, rfl⟩
    refine qn58 _ _ ?_
    refine COk.seqQ fun Q104 qn104 qx104 qr104 => ?_
    refine gor hn ?_
    refine qn104 _ _ ?_
    refine got hn ?_
    obtain rfl := Option.some.inj h
    exact ⟨[], _, rfl, (by repeat (first | exact trivial | exact rfl | (refine And.intro ?_ ?_))), trivial, rfl, rfl, rfl, rfl, rfl⟩

/- qcref1.SameTallies -/
set_option maxRecDepth 100000 in
set_option maxHeartbeats 1000000 in
theorem qcref1_SameTallies_ok (N : Nat) (a0 : (List Tl)) (a1 : (List Tl)) (r : Bool) (h : qcref1_SameTallies N a0 a1 = some r) : Spec Try.prog 16 [] [.sl 4 (List.map eTl a0), .sl 4 (List.map eTl a1)] (.bool r) [] [] := by
  refine Spec.of tabOk Try.func16 rfl Try.ntmps16 (by kernel_rfl) rfl rfl rfl fun Γ hn => ?_
  unfold qcref1_SameTallies at h
  refine COk.seqQ fun Q59 qn59 qx59 qr59 => ?_
  refine gor hn ?_
  refine qn59 _ _ ?_
  refine COk.seqQ fun Q60 qn60 qx60 qr60 => ?_
  refine COk.seqQ fun Q61 qn61 qx61 qr61 => ?_
  refine gor hn ?_
  refine lenM (fun hl1 => ?_)
  refine lenM (fun hl2 => ?_)
  refine qn61 _ _ ?_
  refine goc hn ?_
  refine bselM h (fun hb3 h => ?_) (fun hb3 h => ?_)
  · refine COk.seqQ fun Q63 qn63 qx63 qr63 => ?_
    refine gor hn ?_
    refine qn63 _ _ ?_
    refine got hn ?_
    refine qr60 _ _ ?_
    obtain rfl := Option.some.inj h
    exact ⟨[], _, rfl, (by repeat (first | exact trivial | exact rfl | (refine And.intro ?_ ?_))), trivial, rfl, rfl, rfl, rfl, rfl⟩
  · refine gok hn ?_
    refine qn60 _ _ ?_
    refine COk.seqQ fun Q64 qn64 qx64 qr64 => ?_
    refine COk.seqQ fun Q65 qn65 qx65 qr65 => ?_
    refine gor hn ?_
    refine lenM (fun hl4 => ?_)
    refine qn65 _ _ ?_
    obtain ⟨o6, h7, h⟩ := bindM h
    refine COk.joinR (ι := { s : Unit // o6 = Ctl.next s }) (fun s => []) (fun s => []) (fun Q96 qn96 qx96 qr96 => ?_) (by intro s; rw [hn]; rfl) ?_
    · refine COk.blkQ fun Q97 qn97 qe97 qx97 qr97 => ?_
      refine COk.loopQ (ι := { q : ((List Tl) × Nat) // q.1 = a0.drop q.2 ∧ qcref1_SameTallies_l1 N a1 q.1 q.2 = some o6 }) (fun q => [(0, .sl 4 (List.map eTl a0)), (1, .sl 4 (List.map eTl a1)), (12, .int (a0.length : Int)), (13, .int (q.1.2 : Int))]) (fun q => []) (fun q => q.1.1.length) ⟨(a0, 0), rfl, h7⟩ [] ⟨⟨(by repeat (first | exact trivial | exact rfl | (refine And.intro ?_ ?_))), (by repeat (first | exact trivial | exact rfl | (refine And.intro ?_ ?_))), rfl, rfl, trivial⟩, trivial, rfl, rfl⟩ (by intro q; rw [hn]; rfl) ?_
      rintro ⟨⟨rest_, k5⟩, hd9, h7⟩ Q98 qn98 qx98 qr98
      replace hd9 : rest_ = a0.drop k5 := hd9
      rcases rest_ with _ | ⟨x11, rest8⟩
      · have hlt13 := restNil hd9
        replace h7 := (qcref1_SameTallies_l1.eq_1 _ _ _).symm.trans h7
        refine COk.seqQ fun Q99 qn99 qx99 qr99 => ?_
        refine gor hn ?_
        refine qn99 _ _ ?_
        refine COk.seqQ fun Q100 qn100 qx100 qr100 => ?_
        refine goc hn ?_
        refine bselF hlt13 ?_
        refine goe hn ?_
        refine qx100 _ _ _ ?_
        refine qx98 _ _ _ ?_
        refine qe97 _ _ ?_
        refine qn96 _ _ ?_
        obtain rfl := Option.some.inj h7
        refine EOk.done ?_
        exact ⟨⟨_, rfl⟩, [], trivial, ⟨trivial, trivial, rfl, rfl⟩⟩
      · obtain ⟨hx12, hd2, hlt13⟩ := restCons hd9
        replace h7 := (qcref1_SameTallies_l1.eq_2 _ _ _ _ _).symm.trans h7
        refine COk.seqQ fun Q101 qn101 qx101 qr101 => ?_
        refine gor hn ?_
        refine qn101 _ _ ?_
        refine COk.seqQ fun Q102 qn102 qx102 qr102 => ?_
        refine goc hn ?_
        refine bselT hlt13 ?_
        refine gok hn ?_
        refine qn102 _ _ ?_
        refine COk.seqQ fun Q103 qn103 qx103 qr103 => ?_
        refine COk.blkQ fun Q110 qn110 qe110 qx110 qr110 => ?_
        refine COk.seqQ fun Q111 qn111 qx111 qr111 => ?_
        refine gor hn ?_
        refine qn111 _ _ ?_
        refine COk.seqQ fun Q112 qn112 qx112 qr112 => ?_
        obtain ⟨o16, h15, h7⟩ := bindM h7
        refine COk.joinR (ι := { s : Bool // o16 = s }) (fun s => [(0, .sl 4 (List.map eTl a0)), (1, .sl 4 (List.map eTl a1)), (12, .int (a0.length : Int)), (13, .int (k5 : Int)), (40, .bool s.1)]) (fun s => []) (fun Q113 qn113 qx113 qr113 => ?_) (by intro s; rw [hn]; rfl) ?_
        · refine COk.sub (ts2 := [(0, .sl 4 (List.map eTl a0)), (1, .sl 4 (List.map eTl a1)), (5, .int (k5 : Int)), (12, .int (a0.length : Int)), (13, .int (k5 : Int))]) (os2 := []) [] ⟨⟨(by repeat (first | exact trivial | exact rfl | (refine And.intro ?_ ?_))), (by repeat (first | exact trivial | exact rfl | (refine And.intro ?_ ?_))), rfl, rfl, rfl, trivial⟩, trivial, rfl, rfl⟩ (by rw [hn]; rfl) ?_
          refine god hn (by kernel_rfl) ?_
          refine idxK hx12 ?_
          obtain ⟨x17, hx18, h15⟩ := bindM h15
          refine idxM hx18 ?_
          refine bselM h15 (fun hb19 h15 => ?_) (fun hb19 h15 => ?_)
          · refine bselT hb19 ?_
            refine bselT hb19 ?_
            refine bselT hb19 ?_
            refine bselT hb19 ?_
            refine bselT hb19 ?_
            refine bselT hb19 ?_
            refine bselT hb19 ?_
            refine bselT hb19 ?_
            refine bselT hb19 ?_
            refine bselT hb19 ?_
            refine bselT hb19 ?_
            refine bselT hb19 ?_
            refine qn113 _ _ ?_
            obtain rfl := Option.some.inj h15
            refine EOk.done ?_
            exact ⟨⟨_, rfl⟩, [], trivial, ⟨⟨(by repeat (first | exact trivial | exact rfl | (refine And.intro ?_ ?_))), (by repeat (first | exact trivial | exact rfl | (refine And.intro ?_ ?_))), rfl, rfl, rfl, trivial⟩, trivial, rfl, rfl⟩⟩
          · refine bselF hb19 ?_
            refine bselF hb19 ?_
            refine idxK hx12 ?_
            refine bselF hb19 ?_
            refine bselF hb19 ?_
            refine bselF hb19 ?_
            refine bselF hb19 ?_
            refine bselF hb19 ?_
            obtain ⟨x20, hx21, h15⟩ := bindM h15
            refine idxM hx21 ?_
            refine bselF hb19 ?_
            refine bselF hb19 ?_
            refine bselF hb19 ?_
            obtain ⟨r22, hr23, h15⟩ := bindM h15
            show CallOk Try.prog _ _ _ _
            refine CallOk.as (qcref1_SameLines_ok N x11.classes x20.classes r22 hr23) (by repeat (first | exact trivial | exact rfl | (refine And.intro ?_ ?_))) trivial rfl ?_
            refine bselF hb19 ?_
            refine bselF hb19 ?_
            refine qn113 _ _ ?_
            obtain rfl := Option.some.inj h15
            refine EOk.done ?_
            exact ⟨⟨_, rfl⟩, [], trivial, ⟨⟨(by repeat (first | exact trivial | exact rfl | (refine And.intro ?_ ?_))), (by repeat (first | exact trivial | exact rfl | (refine And.intro ?_ ?_))), rfl, rfl, rfl, trivial⟩, trivial, rfl, rfl⟩⟩
        rintro ⟨v14, hv_⟩
        replace hv_ := hv_.symm
        subst hv_
        refine qn112 _ _ ?_
        refine goc hn ?_
        refine bselM h7 (fun hb24 h7 => ?_) (fun hb24 h7 => ?_)
        · refine COk.seqQ fun Q115 qn115 qx115 qr115 => ?_
          refine gor hn ?_
          refine qn115 _ _ ?_
          refine got hn ?_
          refine qr110 _ _ ?_
          refine qr103 _ _ ?_
          refine qr98 _ _ ?_
          refine qr97 _ _ ?_
          refine qr96 _ _ ?_
          refine qr64 _ _ ?_
          obtain rfl := Option.some.inj h7
          obtain rfl := Option.some.inj h
          exact ⟨[], _, rfl, (by repeat (first | exact trivial | exact rfl | (refine And.intro ?_ ?_))), trivial, rfl, rfl, rfl, rfl, rfl⟩
        · refine gok hn ?_
          refine qn110 _ _ ?_
          refine qn103 _ _ ?_
          refine gor hn ?_
          refine Or.inl (And.intro (inrK hx12 hl4) ?_)
          refine qn98 _ _ ?_
          refine EOk.done ?_
          exact ⟨⟨(rest8, k5 + 1), hd2, h7⟩, [], by show rest8.length < rest8.length + 1; omega, ⟨⟨(by repeat (first | exact trivial | exact rfl | (refine And.intro ?_ ?_))), (by repeat (first | exact trivial | exact rfl | (refine And.intro ?_ ?_))), rfl, rfl, trivial⟩, trivial, rfl, rfl⟩⟩
    rintro ⟨⟨⟩, rfl⟩
    refine qn64 _ _ ?_
    refine COk.seqQ fun Q116 qn116 qx116 qr116 => ?_
    refine gor hn ?_
    refine qn116 _ _ ?_
    refine got hn ?_
    obtain rfl := Option.some.inj h
    exact ⟨[], _, rfl, (by repeat (first | exact trivial | exact rfl | (refine And.intro ?_ ?_))), trivial, rfl, rfl, rfl, rfl, rfl⟩

/- tally.All -/
set_option maxRecDepth 100000 in
set_option maxHeartbeats 1000000 in
theorem tally_All_ok (N : Nat) (a0 : (List Tl)) (a1 : St) (r : Int) (h : tally_All N a0 a1 = some r) : Spec Try.prog 20 [] [.sl 4 (List.map eTl a0), .agg (eSt a1)] (.int r) [] [] := by
  refine Spec.of tabOk Try.func20 rfl Try.ntmps20 (by kernel_rfl) rfl rfl rfl fun Γ hn => ?_
  unfold tally_All at h
  refine COk.seqQ fun Q483 qn483 qx483 qr483 => ?_
  refine gor hn ?_
  refine qn483 _ _ ?_
  refine COk.seqQ fun Q484 qn484 qx484 qr484 => ?_
  refine gor hn ?_
  refine qn484 _ _ ?_
  refine COk.seqQ fun Q485 qn485 qx485 qr485 => ?_
  refine COk.seqQ fun Q486 qn486 qx486 qr486 => ?_
  refine gor hn ?_
  refine lenM (fun hl1 => ?_)
  refine qn486 _ _ ?_
  obtain ⟨o6, h7, h⟩ := bindM h
  refine COk.joinR (ι := { s : Int // o6 = s }) (fun s => [(5, .int s.1)]) (fun s => []) (fun Q841 qn841 qx841 qr841 => ?_) (by intro s; rw [hn]; rfl) ?_
  · refine COk.blkQ fun Q842 qn842 qe842 qx842 qr842 => ?_
    refine COk.loopQ (ι := { q : ((List Tl) × Nat × Int) // q.1 = a0.drop q.2.1 ∧ tally_All_l1 N a1 q.1 q.2.1 q.2.2 = some o6 }) (fun q => [(3, .ptr 3 0), (5, .int q.1.2.2), (10, .sl 4 (List.map eTl a0)), (11, .int (a0.length : Int)), (12, .int (q.1.2.1 : Int))]) (fun q => [(3, .box (eSt a1) 24)]) (fun q => q.1.1.length) ⟨(a0, 0, (0 : Int)), rfl, h7⟩ [] ⟨⟨rfl, rfl, (by repeat (first | exact trivial | exact rfl | (refine And.intro ?_ ?_))), rfl, rfl, trivial⟩, ⟨rfl, trivial⟩, rfl, rfl⟩ (by intro q; rw [hn]; rfl) ?_
    rintro ⟨⟨rest_, k2, v3⟩, hd9, h7⟩ Q843 qn843 qx843 qr843
    replace hd9 : rest_ = a0.drop k2 := hd9
    rcases rest_ with _ | ⟨x11, rest8⟩
    · have hlt13 := restNil hd9
      replace h7 := (tally_All_l1.eq_1 _ _ _ _).symm.trans h7
      refine COk.seqQ fun Q844 qn844 qx844 qr844 => ?_
      refine gor hn ?_
      refine qn844 _ _ ?_
      refine COk.seqQ fun Q845 qn845 qx845 qr845 => ?_
      refine goc hn ?_
      refine bselF hlt13 ?_
      refine goe hn ?_
      refine qx845 _ _ _ ?_
      refine qx843 _ _ _ ?_
      refine qe842 _ _ ?_
      refine qn841 _ _ ?_
      obtain rfl := Option.some.inj h7
      refine EOk.done ?_
      exact ⟨⟨_, rfl⟩, [], trivial, ⟨⟨rfl, trivial⟩, trivial, rfl, rfl⟩⟩
    · obtain ⟨hx12, hd2, hlt13⟩ := restCons hd9
      replace h7 := (tally_All_l1.eq_2 _ _ _ _ _ _).symm.trans h7
      refine COk.seqQ fun Q846 qn846 qx846 qr846 => ?_
      refine gor hn ?_
      refine qn846 _ _ ?_
      refine COk.seqQ fun Q847 qn847 qx847 qr847 => ?_
      refine goc hn ?_
      refine bselT hlt13 ?_
      refine gok hn ?_
      refine qn847 _ _ ?_
      refine COk.seqQ fun Q848 qn848 qx848 qr848 => ?_
      obtain ⟨o16, h15, h7⟩ := bindM h7
      refine COk.joinR (ι := { s : Int // o16 = s }) (fun s => [(3, .ptr 3 0), (5, .int s.1), (10, .sl 4 (List.map eTl a0)), (11, .int (a0.length : Int)), (12, .int (k2 : Int))]) (fun s => [(3, .box (eSt a1) 24)]) (fun Q925 qn925 qx925 qr925 => ?_) (by intro s; rw [hn]; rfl) ?_
      · refine COk.blkQ fun Q926 qn926 qe926 qx926 qr926 => ?_
        refine COk.seqQ fun Q927 qn927 qx927 qr927 => ?_
        refine gor hn ?_
        refine idxK hx12 ?_
        refine qn927 _ _ ?_
        refine COk.seqQ fun Q928 qn928 qx928 qr928 => ?_
        refine COk.seqQ fun Q929 qn929 qx929 qr929 => ?_
        refine gor hn ?_
        refine qn929 _ _ ?_
        refine goc hn ?_
        refine bselM h15 (fun hb17 h15 => ?_) (fun hb17 h15 => ?_)
        · refine goe hn ?_
          refine qx928 _ _ _ ?_
          refine qe926 _ _ ?_
          refine qn925 _ _ ?_
          obtain rfl := Option.some.inj h15
          refine EOk.done ?_
          exact ⟨⟨_, rfl⟩, [], trivial, ⟨⟨rfl, rfl, (by repeat (first | exact trivial | exact rfl | (refine And.intro ?_ ?_))), rfl, rfl, trivial⟩, ⟨rfl, trivial⟩, rfl, rfl⟩⟩
        · refine gok hn ?_
          refine qn928 _ _ ?_
          refine COk.seqQ fun Q930 qn930 qx930 qr930 => ?_
          refine gor hn ?_
          refine lenM (fun hl18 => ?_)
          refine qn930 _ _ ?_
          obtain ⟨o23, h24, h15⟩ := bindM h15
          refine COk.joinR (ι := { s : Int // o23 = s }) (fun s => [(3, .ptr 3 0), (5, .int s.1), (10, .sl 4 (List.map eTl a0)), (11, .int (a0.length : Int)), (12, .int (k2 : Int))]) (fun s => [(3, .box (eSt a1) 24)]) (fun Q952 qn952 qx952 qr952 => ?_) (by intro s; rw [hn]; rfl) ?_
          · refine COk.blkQ fun Q953 qn953 qe953 qx953 qr953 => ?_
            refine COk.loopQ (ι := { q : ((List Ln) × Nat × Int) // q.1 = x11.classes.drop q.2.1 ∧ tally_All_l2 N q.1 q.2.1 q.2.2 = some o23 }) (fun q => [(3, .ptr 3 0), (5, .int q.1.2.2), (10, .sl 4 (List.map eTl a0)), (11, .int (a0.length : Int)), (12, .int (k2 : Int)), (21, .sl 2 (List.map eLn x11.classes)), (22, .int (x11.classes.length : Int)), (23, .int (q.1.2.1 : Int))]) (fun q => [(3, .box (eSt a1) 24)]) (fun q => q.1.1.length) ⟨(x11.classes, 0, v3), rfl, h24⟩ [] ⟨⟨rfl, rfl, (by repeat (first | exact trivial | exact rfl | (refine And.intro ?_ ?_))), rfl, rfl, (by repeat (first | exact trivial | exact rfl | (refine And.intro ?_ ?_))), rfl, rfl, trivial⟩, ⟨rfl, trivial⟩, rfl, rfl⟩ (by intro q; rw [hn]; rfl) ?_
            rintro ⟨⟨rest_, k19, v20⟩, hd26, h24⟩ Q954 qn954 qx954 qr954
            replace hd26 : rest_ = x11.classes.drop k19 := hd26
            rcases rest_ with _ | ⟨x28, rest25⟩
            · have hlt30 := restNil hd26
              replace h24 := (tally_All_l2.eq_1 _ _ _).symm.trans h24
              refine COk.seqQ fun Q955 qn955 qx955 qr955 => ?_
              refine gor hn ?_
              refine qn955 _ _ ?_
              refine COk.seqQ fun Q956 qn956 qx956 qr956 => ?_
              refine goc hn ?_
              refine bselF hlt30 ?_
              refine goe hn ?_
              refine qx956 _ _ _ ?_
              refine qx954 _ _ _ ?_
              refine qe953 _ _ ?_
              refine qn952 _ _ ?_
              obtain rfl := Option.some.inj h24
              refine EOk.done ?_
              exact ⟨⟨_, rfl⟩, [], trivial, ⟨⟨rfl, rfl, (by repeat (first | exact trivial | exact rfl | (refine And.intro ?_ ?_))), rfl, rfl, trivial⟩, ⟨rfl, trivial⟩, rfl, rfl⟩⟩
            · obtain ⟨hx29, hd2, hlt30⟩ := restCons hd26
              replace h24 := (tally_All_l2.eq_2 _ _ _ _ _).symm.trans h24
              refine COk.seqQ fun Q957 qn957 qx957 qr957 => ?_
              refine gor hn ?_
              refine qn957 _ _ ?_
              refine COk.seqQ fun Q958 qn958 qx958 qr958 => ?_
              refine goc hn ?_
              refine bselT hlt30 ?_
              refine gok hn ?_
              refine qn958 _ _ ?_
              refine COk.seqQ fun Q959 qn959 qx959 qr959 => ?_
              refine COk.blkQ fun Q962 qn962 qe962 qx962 qr962 => ?_
              refine COk.seqQ fun Q963 qn963 qx963 qr963 => ?_
              refine gor hn ?_
              refine idxK hx29 ?_
              refine qn963 _ _ ?_
              refine gor hn ?_
              refine Or.inr ?_
              refine qn962 _ _ ?_
              refine qn959 _ _ ?_
              refine gor hn ?_
              refine Or.inl (And.intro (inrK hx29 hl18) ?_)
              refine qn954 _ _ ?_
              refine EOk.done ?_
              exact ⟨⟨(rest25, k19 + 1, (wr (v20 + x28.found))), hd2, h24⟩, [], by show rest25.length < rest25.length + 1; omega, ⟨⟨rfl, rfl, (by repeat (first | exact trivial | exact rfl | (refine And.intro ?_ ?_))), rfl, rfl, (by repeat (first | exact trivial | exact rfl | (refine And.intro ?_ ?_))), rfl, rfl, trivial⟩, ⟨rfl, trivial⟩, rfl, rfl⟩⟩
          rintro ⟨v22, hv_⟩
          replace hv_ := hv_.symm
          subst hv_
          refine qn926 _ _ ?_
          refine qn925 _ _ ?_
          obtain rfl := Option.some.inj h15
          refine EOk.done ?_
          exact ⟨⟨_, rfl⟩, [], trivial, ⟨⟨rfl, rfl, (by repeat (first | exact trivial | exact rfl | (refine And.intro ?_ ?_))), rfl, rfl, trivial⟩, ⟨rfl, trivial⟩, rfl, rfl⟩⟩
      rintro ⟨v14, hv_⟩
      replace hv_ := hv_.symm
      subst hv_
      refine qn848 _ _ ?_
      refine gor hn ?_
      refine Or.inl (And.intro (inrK hx12 hl1) ?_)
      refine qn843 _ _ ?_
      refine EOk.done ?_
      exact ⟨⟨(rest8, k2 + 1, v14), hd2, h7⟩, [], by show rest8.length < rest8.length + 1; omega, ⟨⟨rfl, rfl, (by repeat (first | exact trivial | exact rfl | (refine And.intro ?_ ?_))), rfl, rfl, trivial⟩, ⟨rfl, trivial⟩, rfl, rfl⟩⟩
  rintro ⟨v5, hv_⟩
  replace hv_ := hv_.symm
  subst hv_
  refine qn485 _ _ ?_
  refine COk.seqQ fun Q964 qn964 qx964 qr964 => ?_
  refine gor hn ?_
  refine qn964 _ _ ?_
  refine got hn ?_
  obtain rfl := Option.some.inj h
  exact ⟨[], _, rfl, (by repeat (first | exact trivial | exact rfl | (refine And.intro ?_ ?_))), trivial, rfl, rfl, rfl, rfl, rfl⟩

/- qclaw7.TallyTells -/
set_option maxRecDepth 100000 in
set_option maxHeartbeats 1000000 in
theorem qclaw7_TallyTells_ok (N : Nat) (a0 : (List Tl)) (a1 : St) (a2 : Int) (r : Bool) (h : qclaw7_TallyTells N a0 a1 a2 = some r) : Spec Try.prog 3 [] [.sl 4 (List.map eTl a0), .agg (eSt a1), .int a2] (.bool r) [] [] := by
  refine Spec.of tabOk Try.func3 rfl Try.ntmps3 (by kernel_rfl) rfl rfl rfl fun Γ hn => ?_
  unfold qclaw7_TallyTells at h
  refine COk.seqQ fun Q430 qn430 qx430 qr430 => ?_
  refine gor hn ?_
  refine qn430 _ _ ?_
  refine COk.seqQ fun Q431 qn431 qx431 qr431 => ?_
  refine COk.seqQ fun Q432 qn432 qx432 qr432 => ?_
  refine gor hn ?_
  refine lenM (fun hl1 => ?_)
  refine qn432 _ _ ?_
  obtain ⟨o3, h4, h⟩ := bindM h
  refine COk.joinR (ι := { s : Unit // o3 = Ctl.next s }) (fun s => [(0, .sl 4 (List.map eTl a0)), (2, .int a2), (4, .ptr 4 0)]) (fun s => [(4, .box (eSt a1) 24)]) (fun Q711 qn711 qx711 qr711 => ?_) (by intro s; rw [hn]; rfl) ?_
  · refine COk.blkQ fun Q712 qn712 qe712 qx712 qr712 => ?_
    refine COk.loopQ (ι := { q : ((List Tl) × Nat) // q.1 = a0.drop q.2 ∧ qclaw7_TallyTells_l1 N q.1 q.2 = some o3 }) (fun q => [(0, .sl 4 (List.map eTl a0)), (2, .int a2), (4, .ptr 4 0), (16, .sl 4 (List.map eTl a0)), (17, .int (a0.length : Int)), (18, .int (q.1.2 : Int))]) (fun q => [(4, .box (eSt a1) 24)]) (fun q => q.1.1.length) ⟨(a0, 0), rfl, h4⟩ [] ⟨⟨(by repeat (first | exact trivial | exact rfl | (refine And.intro ?_ ?_))), rfl, rfl, (by repeat (first | exact trivial | exact rfl | (refine And.intro ?_ ?_))), rfl, rfl, trivial⟩, ⟨rfl, trivial⟩, rfl, rfl⟩ (by intro q; rw [hn]; rfl) ?_
    rintro ⟨⟨rest_, k2⟩, hd6, h4⟩ Q713 qn713 qx713 qr713
    replace hd6 : rest_ = a0.drop k2 := hd6
    rcases rest_ with _ | ⟨x8, rest5⟩
    · have hlt10 := restNil hd6
      replace h4 := (qclaw7_TallyTells_l1.eq_1 _ _).symm.trans h4
      refine COk.seqQ fun Q714 qn714 qx714 qr714 => ?_
      refine gor hn ?_
      refine qn714 _ _ ?_
      refine COk.seqQ fun Q715 qn715 qx715 qr715 => ?_
      refine goc hn ?_
      refine bselF hlt10 ?_
      refine goe hn ?_
      refine qx715 _ _ _ ?_
      refine qx713 _ _ _ ?_
      refine qe712 _ _ ?_
      refine qn711 _ _ ?_
      obtain rfl := Option.some.inj h4
      refine EOk.done ?_
      exact ⟨⟨_, rfl⟩, [], trivial, ⟨⟨(by repeat (first | exact trivial | exact rfl | (refine And.intro ?_ ?_))), rfl, rfl, trivial⟩, ⟨rfl, trivial⟩, rfl, rfl⟩⟩
    · obtain ⟨hx9, hd2, hlt10⟩ := restCons hd6
      replace h4 := (qclaw7_TallyTells_l1.eq_2 _ _ _ _).symm.trans h4
      refine COk.seqQ fun Q716 qn716 qx716 qr716 => ?_
      refine gor hn ?_
      refine qn716 _ _ ?_
      refine COk.seqQ fun Q717 qn717 qx717 qr717 => ?_
      refine goc hn ?_
      refine bselT hlt10 ?_
      refine gok hn ?_
      refine qn717 _ _ ?_
      refine COk.seqQ fun Q718 qn718 qx718 qr718 => ?_
      refine COk.blkQ fun Q787 qn787 qe787 qx787 qr787 => ?_
      refine COk.seqQ fun Q788 qn788 qx788 qr788 => ?_
      refine gor hn ?_
      refine idxK hx9 ?_
      refine qn788 _ _ ?_
      refine COk.seqQ fun Q789 qn789 qx789 qr789 => ?_
      refine gor hn ?_
      refine lenM (fun hl11 => ?_)
      refine qn789 _ _ ?_
      obtain ⟨o13, h14, h4⟩ := bindM h4
      refine COk.joinR (ι := { s : Unit // o13 = Ctl.next s }) (fun s => [(0, .sl 4 (List.map eTl a0)), (2, .int a2), (4, .ptr 4 0), (16, .sl 4 (List.map eTl a0)), (17, .int (a0.length : Int)), (18, .int (k2 : Int))]) (fun s => [(4, .box (eSt a1) 24)]) (fun Q835 qn835 qx835 qr835 => ?_) (by intro s; rw [hn]; rfl) ?_
      · refine COk.blkQ fun Q836 qn836 qe836 qx836 qr836 => ?_
        refine COk.loopQ (ι := { q : ((List Ln) × Nat) // q.1 = x8.classes.drop q.2 ∧ qclaw7_TallyTells_l2 N q.1 q.2 = some o13 }) (fun q => [(0, .sl 4 (List.map eTl a0)), (2, .int a2), (4, .ptr 4 0), (16, .sl 4 (List.map eTl a0)), (17, .int (a0.length : Int)), (18, .int (k2 : Int)), (23, .sl 2 (List.map eLn x8.classes)), (24, .int (x8.classes.length : Int)), (25, .int (q.1.2 : Int))]) (fun q => [(4, .box (eSt a1) 24)]) (fun q => q.1.1.length) ⟨(x8.classes, 0), rfl, h14⟩ [] ⟨⟨(by repeat (first | exact trivial | exact rfl | (refine And.intro ?_ ?_))), rfl, rfl, (by repeat (first | exact trivial | exact rfl | (refine And.intro ?_ ?_))), rfl, rfl, (by repeat (first | exact trivial | exact rfl | (refine And.intro ?_ ?_))), rfl, rfl, trivial⟩, ⟨rfl, trivial⟩, rfl, rfl⟩ (by intro q; rw [hn]; rfl) ?_
        rintro ⟨⟨rest_, k12⟩, hd16, h14⟩ Q837 qn837 qx837 qr837
        replace hd16 : rest_ = x8.classes.drop k12 := hd16
        rcases rest_ with _ | ⟨x18, rest15⟩
        · have hlt20 := restNil hd16
          replace h14 := (qclaw7_TallyTells_l2.eq_1 _ _).symm.trans h14
          refine COk.seqQ fun Q838 qn838 qx838 qr838 => ?_
          refine gor hn ?_
          refine qn838 _ _ ?_
          refine COk.seqQ fun Q839 qn839 qx839 qr839 => ?_
          refine goc hn ?_
          refine bselF hlt20 ?_
          refine goe hn ?_
          refine qx839 _ _ _ ?_
          refine qx837 _ _ _ ?_
          refine qe836 _ _ ?_
          refine qn835 _ _ ?_
          obtain rfl := Option.some.inj h14
          refine EOk.done ?_
          exact ⟨⟨_, rfl⟩, [], trivial, ⟨⟨(by repeat (first | exact trivial | exact rfl | (refine And.intro ?_ ?_))), rfl, rfl, (by repeat (first | exact trivial | exact rfl | (refine And.intro ?_ ?_))), rfl, rfl, trivial⟩, ⟨rfl, trivial⟩, rfl, rfl⟩⟩
        · obtain ⟨hx19, hd2, hlt20⟩ := restCons hd16
          replace h14 := (qclaw7_TallyTells_l2.eq_2 _ _ _ _).symm.trans h14
          refine COk.seqQ fun Q840 qn840 qx840 qr840 => ?_
          refine gor hn ?_
          refine qn840 _ _ ?_
          refine COk.seqQ fun Q841 qn841 qx841 qr841 => ?_
          refine goc hn ?_
          refine bselT hlt20 ?_
          refine gok hn ?_
          refine qn841 _ _ ?_
          refine COk.seqQ fun Q842 qn842 qx842 qr842 => ?_
          refine COk.blkQ fun Q849 qn849 qe849 qx849 qr849 => ?_
          refine COk.seqQ fun Q850 qn850 qx850 qr850 => ?_
          refine gor hn ?_
          refine idxK hx19 ?_
          refine qn850 _ _ ?_
          refine COk.seqQ fun Q851 qn851 qx851 qr851 => ?_
          obtain ⟨o23, h22, h14⟩ := bindM h14
          refine COk.joinR (ι := { s : Bool // o23 = s }) (fun s => [(0, .sl 4 (List.map eTl a0)), (2, .int a2), (4, .ptr 4 0), (16, .sl 4 (List.map eTl a0)), (17, .int (a0.length : Int)), (18, .int (k2 : Int)), (23, .sl 2 (List.map eLn x8.classes)), (24, .int (x8.classes.length : Int)), (25, .int (k12 : Int)), (36, .bool s.1)]) (fun s => [(4, .box (eSt a1) 24)]) (fun Q852 qn852 qx852 qr852 => ?_) (by intro s; rw [hn]; rfl) ?_
          · refine gor hn ?_
            refine bselM h22 (fun hb24 h22 => ?_) (fun hb24 h22 => ?_)
            · refine bselT hb24 ?_
              refine bselT hb24 ?_
              refine bselT hb24 ?_
              refine qn852 _ _ ?_
              obtain rfl := Option.some.inj h22
              refine EOk.done ?_
              exact ⟨⟨_, rfl⟩, [], trivial, ⟨⟨(by repeat (first | exact trivial | exact rfl | (refine And.intro ?_ ?_))), rfl, rfl, (by repeat (first | exact trivial | exact rfl | (refine And.intro ?_ ?_))), rfl, rfl, (by repeat (first | exact trivial | exact rfl | (refine And.intro ?_ ?_))), rfl, rfl, rfl, trivial⟩, ⟨rfl, trivial⟩, rfl, rfl⟩⟩
            · refine bselF hb24 ?_
              refine bselF hb24 ?_
              refine bselF hb24 ?_
              refine qn852 _ _ ?_
              obtain rfl := Option.some.inj h22
              refine EOk.done ?_
              exact ⟨⟨_, rfl⟩, [], trivial, ⟨⟨(by repeat (first | exact trivial | exact rfl | (refine And.intro ?_ ?_))), rfl, rfl, (by repeat (first | exact trivial | exact rfl | (refine And.intro ?_ ?_))), rfl, rfl, (by repeat (first | exact trivial | exact rfl | (refine And.intro ?_ ?_))), rfl, rfl, rfl, trivial⟩, ⟨rfl, trivial⟩, rfl, rfl⟩⟩
          rintro ⟨v21, hv_⟩
          replace hv_ := hv_.symm
          subst hv_
          refine qn851 _ _ ?_
          refine goc hn ?_
          refine bselM h14 (fun hb25 h14 => ?_) (fun hb25 h14 => ?_)
          · refine COk.seqQ fun Q854 qn854 qx854 qr854 => ?_
            refine gor hn ?_
            refine qn854 _ _ ?_
            refine got hn ?_
            refine qr849 _ _ ?_
            refine qr842 _ _ ?_
            refine qr837 _ _ ?_
            refine qr836 _ _ ?_
            refine qr835 _ _ ?_
            refine qr787 _ _ ?_
            refine qr718 _ _ ?_
            refine qr713 _ _ ?_
            refine qr712 _ _ ?_
            refine qr711 _ _ ?_
            refine qr431 _ _ ?_
            obtain rfl := Option.some.inj h14
            obtain rfl := Option.some.inj h4
            obtain rfl := Option.some.inj h
            exact ⟨[], _, rfl, (by repeat (first | exact trivial | exact rfl | (refine And.intro ?_ ?_))), trivial, rfl, rfl, rfl, rfl, rfl⟩
          · refine gok hn ?_
            refine qn849 _ _ ?_
            refine qn842 _ _ ?_
            refine gor hn ?_
            refine Or.inl (And.intro (inrK hx19 hl11) ?_)
            refine qn837 _ _ ?_
            refine EOk.done ?_
            exact ⟨⟨(rest15, k12 + 1), hd2, h14⟩, [], by show rest15.length < rest15.length + 1; omega, ⟨⟨(by repeat (first | exact trivial | exact rfl | (refine And.intro ?_ ?_))), rfl, rfl, (by repeat (first | exact trivial | exact rfl | (refine And.intro ?_ ?_))), rfl, rfl, (by repeat (first | exact trivial | exact rfl | (refine And.intro ?_ ?_))), rfl, rfl, trivial⟩, ⟨rfl, trivial⟩, rfl, rfl⟩⟩
      rintro ⟨⟨⟩, rfl⟩
      refine qn787 _ _ ?_
      refine qn718 _ _ ?_
      refine gor hn ?_
      refine Or.inl (And.intro (inrK hx9 hl1) ?_)
      refine qn713 _ _ ?_
      refine EOk.done ?_
      exact ⟨⟨(rest5, k2 + 1), hd2, h4⟩, [], by show rest5.length < rest5.length + 1; omega, ⟨⟨(by repeat (first | exact trivial | exact rfl | (refine And.intro ?_ ?_))), rfl, rfl, (by repeat (first | exact trivial | exact rfl | (refine And.intro ?_ ?_))), rfl, rfl, trivial⟩, ⟨rfl, trivial⟩, rfl, rfl⟩⟩
  rintro ⟨⟨⟩, rfl⟩
  refine qn431 _ _ ?_
  refine COk.seqQ fun Q855 qn855 qx855 qr855 => ?_
  refine gor hn ?_
  obtain ⟨r26, hr27, h⟩ := bindM h
  show CallOk Try.prog _ _ _ _
  refine CallOk.as (qcref1_Most_ok N a0 a1 r26 hr27) (by repeat (first | exact trivial | exact rfl | (refine And.intro ?_ ?_))) trivial rfl ?_
  refine qn855 _ _ ?_
  refine COk.seqQ fun Q856 qn856 qx856 qr856 => ?_
  refine gor hn ?_
  obtain ⟨r28, hr29, h⟩ := bindM h
  show CallOk Try.prog _ _ _ _
  refine CallOk.as (tally_Most_ok N a0 a1 r28 hr29) (by repeat (first | exact trivial | exact rfl | (refine And.intro ?_ ?_))) trivial rfl ?_
  refine qn856 _ _ ?_
  refine COk.seqQ fun Q857 qn857 qx857 qr857 => ?_
  obtain ⟨o32, h31, h⟩ := bindM h
  refine COk.joinR (ι := { s : Bool // o32 = s }) (fun s => [(6, .bool s.1)]) (fun s => []) (fun Q858 qn858 qx858 qr858 => ?_) (by intro s; rw [hn]; rfl) ?_
  · refine COk.sub (ts2 := [(0, .sl 4 (List.map eTl a0)), (2, .int a2), (4, .ptr 4 0), (11, .int r26.1), (12, .int r26.2.1), (13, .int r26.2.2), (14, .int r28.1), (15, .int r28.2)]) (os2 := [(4, .box (eSt a1) 24)]) [] ⟨⟨(by repeat (first | exact trivial | exact rfl | (refine And.intro ?_ ?_))), rfl, rfl, rfl, rfl, rfl, rfl, rfl, trivial⟩, ⟨rfl, trivial⟩, rfl, rfl⟩ (by rw [hn]; rfl) ?_
    refine god hn (by kernel_rfl) ?_
    obtain ⟨r33, hr34, h31⟩ := bindM h31
    show CallOk Try.prog _ _ _ _
    refine CallOk.as ((tally_Add_ok N a0 a1 a2 r33 hr34).sw 0 55) (by repeat (first | exact trivial | exact rfl | (refine And.intro ?_ ?_))) trivial rfl ?_
    obtain ⟨r35, hr36, h31⟩ := bindM h31
    show CallOk Try.prog _ _ _ _
    refine CallOk.as ((qcref1_Count_ok N a0 a1 a2 r35 hr36).sw 0 59) (by repeat (first | exact trivial | exact rfl | (refine And.intro ?_ ?_))) trivial rfl ?_
    obtain ⟨r37, hr38, h31⟩ := bindM h31
    show CallOk Try.prog _ _ _ _
    refine CallOk.lend (qcref1_SameTallies_ok N r33 r35 r37 hr38) (by repeat (first | exact trivial | exact rfl | (refine And.intro ?_ ?_))) rfl ?_
    refine bselM h31 (fun hb39 h31 => ?_) (fun hb39 h31 => ?_)
    · refine bselT hb39 ?_
      obtain ⟨r40, hr41, h31⟩ := bindM h31
      show CallOk Try.prog _ _ _ _
      refine CallOk.as ((tally_Own_ok N a0 r40 hr41).sw 0 63) (by repeat (first | exact trivial | exact rfl | (refine And.intro ?_ ?_))) trivial rfl ?_
      refine bselT hb39 ?_
      refine bselT hb39 ?_
      obtain ⟨r42, hr43, h31⟩ := bindM h31
      show CallOk Try.prog _ _ _ _
      refine CallOk.lend (qcref1_SameTallies_ok N r40 a0 r42 hr43) (by repeat (first | exact trivial | exact rfl | (refine And.intro ?_ ?_))) rfl ?_
      refine bselT hb39 ?_
      refine bselM h31 (fun hb44 h31 => ?_) (fun hb44 h31 => ?_)
      · refine bselT hb44 ?_
        refine bselT hb44 ?_
        refine bselT hb44 ?_
        refine bselM h31 (fun hb45 h31 => ?_) (fun hb45 h31 => ?_)
        · refine bselT hb45 ?_
          refine bselT hb45 ?_
          refine bselT hb45 ?_
          refine bselM h31 (fun hb46 h31 => ?_) (fun hb46 h31 => ?_)
          · refine bselT hb46 ?_
            refine bselT hb46 ?_
            obtain ⟨r47, hr48, h31⟩ := bindM h31
            show CallOk Try.prog _ _ _ _
            refine CallOk.as (tally_All_ok N a0 a1 r47 hr48) (by repeat (first | exact trivial | exact rfl | (refine And.intro ?_ ?_))) trivial rfl ?_
            refine bselT hb46 ?_
            refine bselT hb46 ?_
            refine bselT hb46 ?_
            refine qn858 _ _ ?_
            obtain rfl := Option.some.inj h31
            refine EOk.done ?_
            exact ⟨⟨_, rfl⟩, [], trivial, ⟨⟨rfl, trivial⟩, trivial, rfl, rfl⟩⟩
          · refine bselF hb46 ?_
            refine bselF hb46 ?_
            refine bselF hb46 ?_
            refine bselF hb46 ?_
            refine bselF hb46 ?_
            refine qn858 _ _ ?_
            obtain rfl := Option.some.inj h31
            refine EOk.done ?_
            exact ⟨⟨_, rfl⟩, [], trivial, ⟨⟨rfl, trivial⟩, trivial, rfl, rfl⟩⟩
        · refine bselF hb45 ?_
          refine bselF hb45 ?_
          refine bselF hb45 ?_
          refine qn858 _ _ ?_
          obtain rfl := Option.some.inj h31
          refine EOk.done ?_
          exact ⟨⟨_, rfl⟩, [], trivial, ⟨⟨rfl, trivial⟩, trivial, rfl, rfl⟩⟩
      · refine bselF hb44 ?_
        refine bselF hb44 ?_
        refine bselF hb44 ?_
        refine qn858 _ _ ?_
        obtain rfl := Option.some.inj h31
        refine EOk.done ?_
        exact ⟨⟨_, rfl⟩, [], trivial, ⟨⟨rfl, trivial⟩, trivial, rfl, rfl⟩⟩
    · refine bselF hb39 ?_
      refine bselF hb39 ?_
      refine bselF hb39 ?_
      refine bselF hb39 ?_
      refine qn858 _ _ ?_
      obtain rfl := Option.some.inj h31
      refine EOk.done ?_
      exact ⟨⟨_, rfl⟩, [], trivial, ⟨⟨rfl, trivial⟩, trivial, rfl, rfl⟩⟩
  rintro ⟨v30, hv_⟩
  replace hv_ := hv_.symm
  subst hv_
  refine qn857 _ _ ?_
  refine got hn ?_
  obtain rfl := Option.some.inj h
  exact ⟨[], _, rfl, (by repeat (first | exact trivial | exact rfl | (refine And.intro ?_ ?_))), trivial, rfl, rfl, rfl, rfl, rfl⟩
end Go.Proofs.Ytioalgofaiideaa
