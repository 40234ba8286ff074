/- Walks after the mirrors. Printed by mir.py. -/
import Derived.Test.YtoceeiamcfdnlaaWk2
namespace Go.Proofs.Ytoceeiamcfdnlaa
open Go.RowKit
set_option linter.unusedVariables false
/- qcref5.Fast -/
set_option maxRecDepth 100000 in
set_option maxHeartbeats 1000000 in
theorem qcref5_Fast_ok (N : Nat) (a0 : Wd) (a1 : Int) (a2 : Int) (a3 : (List Int)) (r : (Fs × Bool)) (h : qcref5_Fast N a0 a1 a2 a3 = some r) : Spec Try.prog 25 [] [.agg (eWd a0), .int a1, .int a2, .sl 1 (List.map eInt a3)] (.tup [.agg (eFs r.1), .bool r.2]) [] [] := by
  refine Spec.of tabOk Try.func25 rfl Try.ntmps25 (by kernel_rfl) rfl rfl rfl fun Γ hn => ?_
  unfold qcref5_Fast at h
  refine COk.seqQ fun Q1384 qn1384 qx1384 qr1384 => ?_
  refine gor hn ?_
  refine qn1384 _ _ ?_
  refine COk.seqQ fun Q1385 qn1385 qx1385 qr1385 => ?_
  refine COk.seqQ fun Q1386 qn1386 qx1386 qr1386 => ?_
  obtain ⟨o3, h2, h⟩ := bindM h
  refine COk.joinR (ι := { s : Bool // o3 = s }) (fun s => [(1, .int a1), (2, .int a2), (3, .sl 1 (List.map eInt a3)), (4, .ptr 4 0), (8, .ptr 8 0), (51, .bool s.1)]) (fun s => [(4, .box (eWd a0) 26), (8, .box [.int (0 : Int), .str ByteArray.empty, .int (0 : Int), .int (0 : Int), .nilsl] 53)]) (fun Q1387 qn1387 qx1387 qr1387 => ?_) (by intro s; rw [hn]; rfl) ?_
  · refine gor hn ?_
    refine bselM h2 (fun hb4 h2 => ?_) (fun hb4 h2 => ?_)
    · refine bselT hb4 ?_
      refine bselT hb4 ?_
      refine bselT hb4 ?_
      refine bselT hb4 ?_
      refine bselT hb4 ?_
      refine qn1387 _ _ ?_
      obtain rfl := Option.some.inj h2
      refine EOk.done ?_
      exact ⟨⟨_, rfl⟩, [], trivial, ⟨⟨rfl, rfl, (by repeat (first | exact trivial | exact rfl | (refine And.intro ?_ ?_))), rfl, rfl, rfl, trivial⟩, ⟨rfl, rfl, trivial⟩, rfl, rfl⟩⟩
    · refine bselF hb4 ?_
      refine bselF hb4 ?_
      refine bselF hb4 ?_
      refine lenM (fun hl5 => ?_)
      refine bselF hb4 ?_
      refine bselF hb4 ?_
      refine bselM h2 (fun hb6 h2 => ?_) (fun hb6 h2 => ?_)
      · refine bselT hb6 ?_
        refine bselT hb6 ?_
        refine qn1387 _ _ ?_
        obtain rfl := Option.some.inj h2
        refine EOk.done ?_
        exact ⟨⟨_, rfl⟩, [], trivial, ⟨⟨rfl, rfl, (by repeat (first | exact trivial | exact rfl | (refine And.intro ?_ ?_))), rfl, rfl, rfl, trivial⟩, ⟨rfl, rfl, trivial⟩, rfl, rfl⟩⟩
      · refine bselF hb6 ?_
        refine bselF hb6 ?_
        refine bselM h2 (fun hb7 h2 => ?_) (fun hb7 h2 => ?_)
        · refine bselT hb7 ?_
          refine bselT hb7 ?_
          refine bselT hb7 ?_
          refine bselT hb7 ?_
          refine bselT hb7 ?_
          refine bselT hb7 ?_
          refine bselT hb7 ?_
          refine bselT hb7 ?_
          refine bselT hb7 ?_
          refine qn1387 _ _ ?_
          obtain rfl := Option.some.inj h2
          refine EOk.done ?_
          exact ⟨⟨_, rfl⟩, [], trivial, ⟨⟨rfl, rfl, (by repeat (first | exact trivial | exact rfl | (refine And.intro ?_ ?_))), rfl, rfl, rfl, trivial⟩, ⟨rfl, rfl, trivial⟩, rfl, rfl⟩⟩
        · refine bselF hb7 ?_
          refine bselF hb7 ?_
          refine bselF hb7 ?_
          refine bselF hb7 ?_
          obtain ⟨x8, hx9, h2⟩ := bindM h2
          refine idxM hx9 ?_
          refine bselF hb7 ?_
          refine bselF hb7 ?_
          refine bselF hb7 ?_
          refine lenM (fun hl10 => ?_)
          refine bselF hb7 ?_
          refine bselF hb7 ?_
          refine qn1387 _ _ ?_
          obtain rfl := Option.some.inj h2
          refine EOk.done ?_
          exact ⟨⟨_, rfl⟩, [], trivial, ⟨⟨rfl, rfl, (by repeat (first | exact trivial | exact rfl | (refine And.intro ?_ ?_))), rfl, rfl, rfl, trivial⟩, ⟨rfl, rfl, trivial⟩, rfl, rfl⟩⟩
  rintro ⟨v1, hv_⟩
  replace hv_ := hv_.symm
  subst hv_
  refine qn1386 _ _ ?_
  refine goc hn ?_
  refine bselM h (fun hb11 h => ?_) (fun hb11 h => ?_)
  · refine COk.seqQ fun Q1389 qn1389 qx1389 qr1389 => ?_
    refine gor hn ?_
    refine qn1389 _ _ ?_
    refine got hn ?_
    refine qr1385 _ _ ?_
    obtain rfl := Option.some.inj h
    exact ⟨[], _, rfl, (by repeat (first | exact trivial | exact rfl | (refine And.intro ?_ ?_))), trivial, rfl, rfl, rfl, rfl, rfl⟩
  · refine gok hn ?_
    refine qn1385 _ _ ?_
    refine COk.seqQ fun Q1390 qn1390 qx1390 qr1390 => ?_
    refine gor hn ?_
    obtain ⟨x12, hx13, h⟩ := bindM h
    refine idxM hx13 ?_
    obtain ⟨x14, hx15, h⟩ := bindM h
    refine idxM hx15 ?_
    refine qn1390 _ _ ?_
    refine COk.seqQ fun Q1391 qn1391 qx1391 qr1391 => ?_
    refine gor hn ?_
    refine qn1391 _ _ ?_
    refine COk.seqQ fun Q1392 qn1392 qx1392 qr1392 => ?_
    refine COk.sub (ts2 := [(1, .int a1), (3, .sl 1 (List.map eInt a3)), (4, .ptr 4 0), (8, .ptr 8 0), (10, .ptr 10 0), (11, .int x14.temps), (12, .int (0 : Int))]) (os2 := [(4, .box (eWd a0) 26), (8, .box [.int (0 : Int), .str ByteArray.empty, .int (0 : Int), .int (0 : Int), .nilsl] 53), (10, .box (eMe x14) 64)]) [] ⟨⟨rfl, (by repeat (first | exact trivial | exact rfl | (refine And.intro ?_ ?_))), rfl, rfl, rfl, rfl, rfl, trivial⟩, ⟨rfl, rfl, rfl, trivial⟩, rfl, rfl⟩ (by rw [hn]; rfl) ?_
    refine gor hn ?_
    refine qn1392 _ _ ?_
    refine COk.seqQ fun Q1393 qn1393 qx1393 qr1393 => ?_
    refine gor hn ?_
    refine qn1393 _ _ ?_
    refine COk.seqQ fun Q1394 qn1394 qx1394 qr1394 => ?_
    refine gor hn ?_
    refine qn1394 _ _ ?_
    refine COk.seqQ fun Q1395 qn1395 qx1395 qr1395 => ?_
    refine COk.seqQ fun Q1396 qn1396 qx1396 qr1396 => ?_
    refine gor hn ?_
    refine lenM (fun hl16 => ?_)
    refine qn1396 _ _ ?_
    refine COk.nilrow 13 213 1 51 rfl rfl rfl ?_
    refine COk.nilrow 14 214 1 3 rfl rfl rfl ?_
    obtain ⟨o32, h33, h⟩ := bindM h
    refine COk.joinR (ι := { s : (Int × (List (List Ins)) × (List Int) × (List (Int × Bool))) // o32 = s }) (fun s => [(1, .int a1), (4, .ptr 4 0), (8, .ptr 8 0), (10, .ptr 10 0), (11, .int s.1.1), (13, .own 213), (14, .own 214), (15, .mp 64)]) (fun s => [(4, .box (eWd a0) 26), (8, .box [.int (0 : Int), .str ByteArray.empty, .int (0 : Int), .int (0 : Int), .nilsl] 53), (10, .box (eMe x14) 64), (64, .mapo (List.map mInt s.1.2.2.2)), (213, .row 1 (List.map (eSl 5 eIns) s.1.2.1) 51), (214, .row 1 (List.map eInt s.1.2.2.1) 3)]) (fun Q1897 qn1897 qx1897 qr1897 => ?_) (by intro s; rw [hn]; rfl) ?_
    · refine COk.blkQ fun Q1898 qn1898 qe1898 qx1898 qr1898 => ?_
      refine COk.loopQ (ι := { q : ((List Ins) × Nat × Int × Int × (List (List Ins)) × (List Int) × (List (Int × Bool))) // q.1 = x14.code.drop q.2.1 ∧ qcref5_Fast_l1 N a0 a3 x14 q.1 q.2.1 q.2.2.1 q.2.2.2.1 q.2.2.2.2.1 q.2.2.2.2.2.1 q.2.2.2.2.2.2 = some o32 }) (fun q => [(1, .int a1), (3, .sl 1 (List.map eInt a3)), (4, .ptr 4 0), (8, .ptr 8 0), (10, .ptr 10 0), (11, .int q.1.2.2.1), (12, .int q.1.2.2.2.1), (13, .own 213), (14, .own 214), (15, .mp 64), (66, .sl 5 (List.map eIns x14.code)), (67, .int (x14.code.length : Int)), (68, .int (q.1.2.1 : Int))]) (fun q => [(4, .box (eWd a0) 26), (8, .box [.int (0 : Int), .str ByteArray.empty, .int (0 : Int), .int (0 : Int), .nilsl] 53), (10, .box (eMe x14) 64), (64, .mapo (List.map mInt q.1.2.2.2.2.2.2)), (213, .row 1 (List.map (eSl 5 eIns) q.1.2.2.2.2.1) 51), (214, .row 1 (List.map eInt q.1.2.2.2.2.2.1) 3)]) (fun q => q.1.1.length) ⟨(x14.code, 0, x14.temps, (0 : Int), ([] : List (List Ins)), ([] : List Int), ([] : (List (Int × Bool)))), rfl, h33⟩ [] ⟨⟨rfl, (by repeat (first | exact trivial | exact rfl | (refine And.intro ?_ ?_))), rfl, rfl, rfl, rfl, rfl, rfl, rfl, rfl, (by repeat (first | exact trivial | exact rfl | (refine And.intro ?_ ?_))), rfl, rfl, trivial⟩, ⟨rfl, rfl, rfl, rfl, rfl, rfl, trivial⟩, rfl, rfl⟩ (by intro q; rw [hn]; rfl) ?_
      rintro ⟨⟨rest_, k17, v18, v19, v20, v21, v22⟩, hd35, h33⟩ Q1899 qn1899 qx1899 qr1899
      replace hd35 : rest_ = x14.code.drop k17 := hd35
      rcases rest_ with _ | ⟨x37, rest34⟩
      · have hlt39 := restNil hd35
        replace h33 := (qcref5_Fast_l1.eq_1 _ _ _ _ _ _ _ _ _ _).symm.trans h33
        refine COk.seqQ fun Q1900 qn1900 qx1900 qr1900 => ?_
        refine gor hn ?_
        refine qn1900 _ _ ?_
        refine COk.seqQ fun Q1901 qn1901 qx1901 qr1901 => ?_
        refine goc hn ?_
        refine bselF hlt39 ?_
        refine goe hn ?_
        refine qx1901 _ _ _ ?_
        refine qx1899 _ _ _ ?_
        refine qe1898 _ _ ?_
        refine qn1897 _ _ ?_
        obtain rfl := Option.some.inj h33
        refine EOk.done ?_
        exact ⟨⟨_, rfl⟩, [], trivial, ⟨⟨rfl, rfl, rfl, rfl, rfl, rfl, rfl, rfl, trivial⟩, ⟨rfl, rfl, rfl, rfl, rfl, rfl, trivial⟩, rfl, rfl⟩⟩
      · obtain ⟨hx38, hd2, hlt39⟩ := restCons hd35
        replace h33 := (qcref5_Fast_l1.eq_2 _ _ _ _ _ _ _ _ _ _ _ _).symm.trans h33
        refine COk.seqQ fun Q1902 qn1902 qx1902 qr1902 => ?_
        refine gor hn ?_
        refine qn1902 _ _ ?_
        refine COk.seqQ fun Q1903 qn1903 qx1903 qr1903 => ?_
        refine goc hn ?_
        refine bselT hlt39 ?_
        refine gok hn ?_
        refine qn1903 _ _ ?_
        refine COk.seqQ fun Q1904 qn1904 qx1904 qr1904 => ?_
        refine COk.blkQ fun Q2005 qn2005 qe2005 qx2005 qr2005 => ?_
        refine COk.seqQ fun Q2006 qn2006 qx2006 qr2006 => ?_
        refine gor hn ?_
        refine idxK hx38 ?_
        refine qn2006 _ _ ?_
        refine COk.seqQ fun Q2007 qn2007 qx2007 qr2007 => ?_
        refine COk.sub (ts2 := [(1, .int a1), (3, .sl 1 (List.map eInt a3)), (4, .ptr 4 0), (8, .ptr 8 0), (10, .ptr 10 0), (11, .int v18), (12, .int v19), (13, .own 213), (14, .own 214), (15, .mp 64), (16, .int (k17 : Int)), (17, .ptr 17 0), (66, .sl 5 (List.map eIns x14.code)), (67, .int (x14.code.length : Int)), (68, .int (k17 : Int))]) (os2 := [(4, .box (eWd a0) 26), (8, .box [.int (0 : Int), .str ByteArray.empty, .int (0 : Int), .int (0 : Int), .nilsl] 53), (10, .box (eMe x14) 64), (17, .box (eIns x37) 62), (64, .mapo (List.map mInt v22)), (213, .row 1 (List.map (eSl 5 eIns) v20) 51), (214, .row 1 (List.map eInt v21) 3)]) [] ⟨⟨rfl, (by repeat (first | exact trivial | exact rfl | (refine And.intro ?_ ?_))), rfl, rfl, rfl, rfl, rfl, rfl, rfl, rfl, rfl, rfl, (by repeat (first | exact trivial | exact rfl | (refine And.intro ?_ ?_))), rfl, rfl, trivial⟩, ⟨rfl, rfl, rfl, rfl, rfl, rfl, rfl, trivial⟩, rfl, rfl⟩ (by rw [hn]; rfl) ?_
        refine gor hn ?_
        refine Exists.intro (List.map eInt [v19]) (And.intro (by repeat (first | exact trivial | exact rfl | (refine And.intro ?_ ?_))) ?_)
        obtain ⟨hg40, h33⟩ := guardM h33
        refine appM (l2 := [v19]) hg40 (leLs_refl _) ?_
        refine qn2007 _ _ ?_
        refine COk.seqQ fun Q2008 qn2008 qx2008 qr2008 => ?_
        refine COk.sub (ts2 := [(1, .int a1), (3, .sl 1 (List.map eInt a3)), (4, .ptr 4 0), (8, .ptr 8 0), (10, .ptr 10 0), (11, .int v18), (12, .int v19), (13, .own 213), (14, .own 76), (15, .mp 64), (16, .int (k17 : Int)), (17, .ptr 17 0), (66, .sl 5 (List.map eIns x14.code)), (67, .int (x14.code.length : Int)), (68, .int (k17 : Int))]) (os2 := [(4, .box (eWd a0) 26), (8, .box [.int (0 : Int), .str ByteArray.empty, .int (0 : Int), .int (0 : Int), .nilsl] 53), (10, .box (eMe x14) 64), (17, .box (eIns x37) 62), (64, .mapo (List.map mInt v22)), (76, .row 1 (List.map eInt (v21 ++ [v19])) 3), (213, .row 1 (List.map (eSl 5 eIns) v20) 51)]) [] ⟨⟨rfl, (by repeat (first | exact trivial | exact rfl | (refine And.intro ?_ ?_))), rfl, rfl, rfl, rfl, rfl, rfl, rfl, rfl, rfl, rfl, (by repeat (first | exact trivial | exact rfl | (refine And.intro ?_ ?_))), rfl, rfl, trivial⟩, ⟨rfl, rfl, rfl, rfl, rfl, rfl, rfl, trivial⟩, rfl, rfl⟩ (by rw [hn]; rfl) ?_
        refine gor hn ?_
        refine Exists.intro (List.map eIns [x37]) (And.intro (by repeat (first | exact trivial | exact rfl | (refine And.intro ?_ ?_))) ?_)
        refine qn2008 _ _ ?_
        refine COk.seqQ fun Q2009 qn2009 qx2009 qr2009 => ?_
        refine COk.seqQ fun Q2010 qn2010 qx2010 qr2010 => ?_
        refine COk.sub (ts2 := [(1, .int a1), (3, .sl 1 (List.map eInt a3)), (4, .ptr 4 0), (8, .ptr 8 0), (10, .ptr 10 0), (11, .int v18), (12, .int v19), (13, .own 213), (14, .own 76), (15, .mp 64), (16, .int (k17 : Int)), (17, .ptr 17 0), (18, .own 78), (66, .sl 5 (List.map eIns x14.code)), (67, .int (x14.code.length : Int)), (68, .int (k17 : Int))]) (os2 := [(4, .box (eWd a0) 26), (8, .box [.int (0 : Int), .str ByteArray.empty, .int (0 : Int), .int (0 : Int), .nilsl] 53), (10, .box (eMe x14) 64), (17, .box (eIns x37) 62), (64, .mapo (List.map mInt v22)), (76, .row 1 (List.map eInt (v21 ++ [v19])) 3), (78, .row 5 (List.map eIns [x37]) 62), (213, .row 1 (List.map (eSl 5 eIns) v20) 51)]) [] ⟨⟨rfl, (by repeat (first | exact trivial | exact rfl | (refine And.intro ?_ ?_))), rfl, rfl, rfl, rfl, rfl, rfl, rfl, rfl, rfl, rfl, rfl, (by repeat (first | exact trivial | exact rfl | (refine And.intro ?_ ?_))), rfl, rfl, trivial⟩, ⟨rfl, rfl, rfl, rfl, rfl, rfl, rfl, rfl, trivial⟩, rfl, rfl⟩ (by rw [hn]; rfl) ?_
        refine gor hn ?_
        refine qn2010 _ _ ?_
        obtain ⟨o45, h44, h33⟩ := bindM h33
        refine COk.joinR (ι := { s : (Int × (List (Int × Bool)) × (List Ins)) // o45 = s }) (fun s => [(1, .int a1), (3, .sl 1 (List.map eInt a3)), (4, .ptr 4 0), (8, .ptr 8 0), (10, .ptr 10 0), (11, .int s.1.1), (12, .int v19), (13, .own 213), (14, .own 76), (15, .mp 64), (18, .own 169), (66, .sl 5 (List.map eIns x14.code)), (67, .int (x14.code.length : Int)), (68, .int (k17 : Int))]) (fun s => [(4, .box (eWd a0) 26), (8, .box [.int (0 : Int), .str ByteArray.empty, .int (0 : Int), .int (0 : Int), .nilsl] 53), (10, .box (eMe x14) 64), (64, .mapo (List.map mInt s.1.2.1)), (76, .row 1 (List.map eInt (v21 ++ [v19])) 3), (169, .row 5 (List.map eIns s.1.2.2) 62), (213, .row 1 (List.map (eSl 5 eIns) v20) 51)]) (fun Q2011 qn2011 qx2011 qr2011 => ?_) (by intro s; rw [hn]; rfl) ?_
        · refine goc hn ?_
          refine bselM h44 (fun hb46 h44 => ?_) (fun hb46 h44 => ?_)
          · refine COk.seqQ fun Q2012 qn2012 qx2012 qr2012 => ?_
            refine COk.sub (ts2 := [(1, .int a1), (3, .sl 1 (List.map eInt a3)), (4, .ptr 4 0), (8, .ptr 8 0), (10, .ptr 10 0), (11, .int v18), (12, .int v19), (13, .own 213), (14, .own 76), (15, .mp 64), (16, .int (k17 : Int)), (17, .ptr 17 0), (18, .own 78), (66, .sl 5 (List.map eIns x14.code)), (67, .int (x14.code.length : Int)), (68, .int (k17 : Int))]) (os2 := [(4, .box (eWd a0) 26), (8, .box [.int (0 : Int), .str ByteArray.empty, .int (0 : Int), .int (0 : Int), .nilsl] 53), (10, .box (eMe x14) 64), (17, .box (eIns x37) 62), (64, .mapo (List.map mInt v22)), (76, .row 1 (List.map eInt (v21 ++ [v19])) 3), (78, .row 5 (List.map eIns [x37]) 62), (213, .row 1 (List.map (eSl 5 eIns) v20) 51)]) [] ⟨⟨rfl, (by repeat (first | exact trivial | exact rfl | (refine And.intro ?_ ?_))), rfl, rfl, rfl, rfl, rfl, rfl, rfl, rfl, rfl, rfl, rfl, (by repeat (first | exact trivial | exact rfl | (refine And.intro ?_ ?_))), rfl, rfl, trivial⟩, ⟨rfl, rfl, rfl, rfl, rfl, rfl, rfl, rfl, trivial⟩, rfl, rfl⟩ (by rw [hn]; rfl) ?_
            refine gor hn ?_
            obtain ⟨x47, hx48, h44⟩ := bindM h44
            refine ownM hx48 ?_
            refine ldM (nthO_some hx48).2 ?_
            refine Exists.intro (List.map eIns ([x37].set ((0 : Int).toNat) (⟨x47.op, x47.a, x47.b, (k17 : Int), x47.name⟩ : Ins))) (And.intro (leLs_set (nthO_some hx48).2 (by repeat (first | exact trivial | exact rfl | (refine And.intro ?_ ?_)))) ?_)
            refine qn2012 _ _ ?_
            refine COk.seqQ fun Q2013 qn2013 qx2013 qr2013 => ?_
            obtain ⟨o51, h50, h44⟩ := bindM h44
            refine COk.joinR (ι := { s : Bool // o51 = s }) (fun s => [(1, .int a1), (3, .sl 1 (List.map eInt a3)), (4, .ptr 4 0), (8, .ptr 8 0), (10, .ptr 10 0), (11, .int v18), (12, .int v19), (13, .own 213), (14, .own 76), (15, .mp 64), (16, .int (k17 : Int)), (17, .ptr 17 0), (18, .own 78), (66, .sl 5 (List.map eIns x14.code)), (67, .int (x14.code.length : Int)), (68, .int (k17 : Int)), (96, .bool s.1)]) (fun s => [(4, .box (eWd a0) 26), (8, .box [.int (0 : Int), .str ByteArray.empty, .int (0 : Int), .int (0 : Int), .nilsl] 53), (10, .box (eMe x14) 64), (17, .box (eIns x37) 62), (64, .mapo (List.map mInt v22)), (76, .row 1 (List.map eInt (v21 ++ [v19])) 3), (78, .row 5 (List.map eIns ([x37].set ((0 : Int).toNat) (⟨x47.op, x47.a, x47.b, (k17 : Int), x47.name⟩ : Ins))) 62), (213, .row 1 (List.map (eSl 5 eIns) v20) 51)]) (fun Q2014 qn2014 qx2014 qr2014 => ?_) (by intro s; rw [hn]; rfl) ?_
            · refine COk.sub (ts2 := [(1, .int a1), (3, .sl 1 (List.map eInt a3)), (4, .ptr 4 0), (8, .ptr 8 0), (10, .ptr 10 0), (11, .int v18), (12, .int v19), (13, .own 213), (14, .own 76), (15, .mp 64), (16, .int (k17 : Int)), (17, .ptr 17 0), (18, .own 78), (66, .sl 5 (List.map eIns x14.code)), (67, .int (x14.code.length : Int)), (68, .int (k17 : Int))]) (os2 := [(4, .box (eWd a0) 26), (8, .box [.int (0 : Int), .str ByteArray.empty, .int (0 : Int), .int (0 : Int), .nilsl] 53), (10, .box (eMe x14) 64), (17, .box (eIns x37) 62), (64, .mapo (List.map mInt v22)), (76, .row 1 (List.map eInt (v21 ++ [v19])) 3), (78, .row 5 (List.map eIns ([x37].set ((0 : Int).toNat) (⟨x47.op, x47.a, x47.b, (k17 : Int), x47.name⟩ : Ins))) 62), (213, .row 1 (List.map (eSl 5 eIns) v20) 51)]) [] ⟨⟨rfl, (by repeat (first | exact trivial | exact rfl | (refine And.intro ?_ ?_))), rfl, rfl, rfl, rfl, rfl, rfl, rfl, rfl, rfl, rfl, rfl, (by repeat (first | exact trivial | exact rfl | (refine And.intro ?_ ?_))), rfl, rfl, trivial⟩, ⟨rfl, rfl, rfl, rfl, rfl, rfl, rfl, rfl, trivial⟩, rfl, rfl⟩ (by rw [hn]; rfl) ?_
              refine gor hn ?_
              refine lenM (fun hl52 => ?_)
              refine bselM h50 (fun hb53 h50 => ?_) (fun hb53 h50 => ?_)
              · refine bselT hb53 ?_
                refine bselT hb53 ?_
                obtain ⟨x54, hx55, h50⟩ := bindM h50
                refine idxM hx55 ?_
                refine bselT hb53 ?_
                refine bselT hb53 ?_
                refine bselT hb53 ?_
                refine qn2014 _ _ ?_
                obtain rfl := Option.some.inj h50
                refine EOk.done ?_
                exact ⟨⟨_, rfl⟩, [], trivial, ⟨⟨rfl, (by repeat (first | exact trivial | exact rfl | (refine And.intro ?_ ?_))), rfl, rfl, rfl, rfl, rfl, rfl, rfl, rfl, rfl, rfl, rfl, (by repeat (first | exact trivial | exact rfl | (refine And.intro ?_ ?_))), rfl, rfl, rfl, trivial⟩, ⟨rfl, rfl, rfl, rfl, rfl, rfl, rfl, rfl, trivial⟩, rfl, rfl⟩⟩
              · refine bselF hb53 ?_
                refine bselF hb53 ?_
                refine bselF hb53 ?_
                refine bselF hb53 ?_
                refine bselF hb53 ?_
                refine qn2014 _ _ ?_
                obtain rfl := Option.some.inj h50
                refine EOk.done ?_
                exact ⟨⟨_, rfl⟩, [], trivial, ⟨⟨rfl, (by repeat (first | exact trivial | exact rfl | (refine And.intro ?_ ?_))), rfl, rfl, rfl, rfl, rfl, rfl, rfl, rfl, rfl, rfl, rfl, (by repeat (first | exact trivial | exact rfl | (refine And.intro ?_ ?_))), rfl, rfl, rfl, trivial⟩, ⟨rfl, rfl, rfl, rfl, rfl, rfl, rfl, rfl, trivial⟩, rfl, rfl⟩⟩
            rintro ⟨v49, hv_⟩
            replace hv_ := hv_.symm
            subst hv_
            refine qn2013 _ _ ?_
            obtain ⟨o60, h59, h44⟩ := bindM h44
            refine COk.joinR (ι := { s : (Int × (List (Int × Bool)) × (List Ins)) // o60 = s }) (fun s => [(1, .int a1), (3, .sl 1 (List.map eInt a3)), (4, .ptr 4 0), (8, .ptr 8 0), (10, .ptr 10 0), (11, .int s.1.1), (12, .int v19), (13, .own 213), (14, .own 76), (15, .mp 64), (18, .own 169), (66, .sl 5 (List.map eIns x14.code)), (67, .int (x14.code.length : Int)), (68, .int (k17 : Int))]) (fun s => [(4, .box (eWd a0) 26), (8, .box [.int (0 : Int), .str ByteArray.empty, .int (0 : Int), .int (0 : Int), .nilsl] 53), (10, .box (eMe x14) 64), (64, .mapo (List.map mInt s.1.2.1)), (76, .row 1 (List.map eInt (v21 ++ [v19])) 3), (169, .row 5 (List.map eIns s.1.2.2) 62), (213, .row 1 (List.map (eSl 5 eIns) v20) 51)]) (fun Q2015 qn2015 qx2015 qr2015 => ?_) (by intro s; rw [hn]; rfl) ?_
            · refine goc hn ?_
              refine bselM h59 (fun hb61 h59 => ?_) (fun hb61 h59 => ?_)
              · refine COk.seqQ fun Q2016 qn2016 qx2016 qr2016 => ?_
                refine COk.sub (ts2 := [(1, .int a1), (3, .sl 1 (List.map eInt a3)), (4, .ptr 4 0), (8, .ptr 8 0), (10, .ptr 10 0), (11, .int v18), (12, .int v19), (13, .own 213), (14, .own 76), (15, .mp 64), (16, .int (k17 : Int)), (17, .ptr 17 0), (18, .own 78), (66, .sl 5 (List.map eIns x14.code)), (67, .int (x14.code.length : Int)), (68, .int (k17 : Int))]) (os2 := [(4, .box (eWd a0) 26), (8, .box [.int (0 : Int), .str ByteArray.empty, .int (0 : Int), .int (0 : Int), .nilsl] 53), (10, .box (eMe x14) 64), (17, .box (eIns x37) 62), (64, .mapo (List.map mInt v22)), (76, .row 1 (List.map eInt (v21 ++ [v19])) 3), (78, .row 5 (List.map eIns ([x37].set ((0 : Int).toNat) (⟨x47.op, x47.a, x47.b, (k17 : Int), x47.name⟩ : Ins))) 62), (213, .row 1 (List.map (eSl 5 eIns) v20) 51)]) [] ⟨⟨rfl, (by repeat (first | exact trivial | exact rfl | (refine And.intro ?_ ?_))), rfl, rfl, rfl, rfl, rfl, rfl, rfl, rfl, rfl, rfl, rfl, (by repeat (first | exact trivial | exact rfl | (refine And.intro ?_ ?_))), rfl, rfl, trivial⟩, ⟨rfl, rfl, rfl, rfl, rfl, rfl, rfl, rfl, trivial⟩, rfl, rfl⟩ (by rw [hn]; rfl) ?_
                refine god hn (by kernel_rfl) ?_
                obtain ⟨x62, hx63, h59⟩ := bindM h59
                refine idxM hx63 ?_
                obtain ⟨r64, hr65, h59⟩ := bindM h59
                show CallOk Try.prog _ _ _ _
                refine CallOk.as (qcref1_Find_ok N a0 x62 x37.name r64 hr65) (by repeat (first | exact trivial | exact rfl | (refine And.intro ?_ ?_))) trivial rfl ?_
                refine qn2016 _ _ ?_
                refine COk.seqQ fun Q2017 qn2017 qx2017 qr2017 => ?_
                refine COk.sub (ts2 := [(1, .int a1), (3, .sl 1 (List.map eInt a3)), (4, .ptr 4 0), (8, .ptr 8 0), (10, .ptr 10 0), (11, .int v18), (12, .int v19), (13, .own 213), (14, .own 76), (15, .mp 64), (16, .int (k17 : Int)), (17, .ptr 17 0), (18, .own 78), (19, .int r64.1), (20, .int r64.2), (66, .sl 5 (List.map eIns x14.code)), (67, .int (x14.code.length : Int)), (68, .int (k17 : Int))]) (os2 := [(4, .box (eWd a0) 26), (8, .box [.int (0 : Int), .str ByteArray.empty, .int (0 : Int), .int (0 : Int), .nilsl] 53), (10, .box (eMe x14) 64), (17, .box (eIns x37) 62), (64, .mapo (List.map mInt v22)), (76, .row 1 (List.map eInt (v21 ++ [v19])) 3), (78, .row 5 (List.map eIns ([x37].set ((0 : Int).toNat) (⟨x47.op, x47.a, x47.b, (k17 : Int), x47.name⟩ : Ins))) 62), (213, .row 1 (List.map (eSl 5 eIns) v20) 51)]) [] ⟨⟨rfl, (by repeat (first | exact trivial | exact rfl | (refine And.intro ?_ ?_))), rfl, rfl, rfl, rfl, rfl, rfl, rfl, rfl, rfl, rfl, rfl, rfl, rfl, (by repeat (first | exact trivial | exact rfl | (refine And.intro ?_ ?_))), rfl, rfl, trivial⟩, ⟨rfl, rfl, rfl, rfl, rfl, rfl, rfl, rfl, trivial⟩, rfl, rfl⟩ (by rw [hn]; rfl) ?_
                refine gor hn ?_
                refine qn2017 _ _ ?_
                obtain ⟨o70, h69, h59⟩ := bindM h59
                refine COk.joinR (ι := { s : (Int × (List (Int × Bool)) × (List Ins)) // o70 = s }) (fun s => [(1, .int a1), (3, .sl 1 (List.map eInt a3)), (4, .ptr 4 0), (8, .ptr 8 0), (10, .ptr 10 0), (11, .int s.1.1), (12, .int v19), (13, .own 213), (14, .own 76), (15, .mp 64), (18, .own 169), (66, .sl 5 (List.map eIns x14.code)), (67, .int (x14.code.length : Int)), (68, .int (k17 : Int))]) (fun s => [(4, .box (eWd a0) 26), (8, .box [.int (0 : Int), .str ByteArray.empty, .int (0 : Int), .int (0 : Int), .nilsl] 53), (10, .box (eMe x14) 64), (64, .mapo (List.map mInt s.1.2.1)), (76, .row 1 (List.map eInt (v21 ++ [v19])) 3), (169, .row 5 (List.map eIns s.1.2.2) 62), (213, .row 1 (List.map (eSl 5 eIns) v20) 51)]) (fun Q2018 qn2018 qx2018 qr2018 => ?_) (by intro s; rw [hn]; rfl) ?_
                · refine goc hn ?_
                  refine bselM h69 (fun hb71 h69 => ?_) (fun hb71 h69 => ?_)
                  · refine COk.seqQ fun Q2019 qn2019 qx2019 qr2019 => ?_
                    refine COk.sub (ts2 := [(1, .int a1), (3, .sl 1 (List.map eInt a3)), (4, .ptr 4 0), (8, .ptr 8 0), (10, .ptr 10 0), (11, .int v18), (12, .int v19), (13, .own 213), (14, .own 76), (15, .mp 64), (16, .int (k17 : Int)), (17, .ptr 17 0), (18, .own 78), (19, .int r64.1), (20, .int r64.2), (66, .sl 5 (List.map eIns x14.code)), (67, .int (x14.code.length : Int)), (68, .int (k17 : Int))]) (os2 := [(4, .box (eWd a0) 26), (8, .box [.int (0 : Int), .str ByteArray.empty, .int (0 : Int), .int (0 : Int), .nilsl] 53), (10, .box (eMe x14) 64), (17, .box (eIns x37) 62), (64, .mapo (List.map mInt v22)), (76, .row 1 (List.map eInt (v21 ++ [v19])) 3), (78, .row 5 (List.map eIns ([x37].set ((0 : Int).toNat) (⟨x47.op, x47.a, x47.b, (k17 : Int), x47.name⟩ : Ins))) 62), (213, .row 1 (List.map (eSl 5 eIns) v20) 51)]) [] ⟨⟨rfl, (by repeat (first | exact trivial | exact rfl | (refine And.intro ?_ ?_))), rfl, rfl, rfl, rfl, rfl, rfl, rfl, rfl, rfl, rfl, rfl, rfl, rfl, (by repeat (first | exact trivial | exact rfl | (refine And.intro ?_ ?_))), rfl, rfl, trivial⟩, ⟨rfl, rfl, rfl, rfl, rfl, rfl, rfl, rfl, trivial⟩, rfl, rfl⟩ (by rw [hn]; rfl) ?_
                    refine gor hn ?_
                    obtain ⟨x72, hx73, h69⟩ := bindM h69
                    refine idxM hx73 ?_
                    obtain ⟨x74, hx75, h69⟩ := bindM h69
                    refine idxM hx75 ?_
                    refine qn2019 _ _ ?_
                    refine COk.seqQ fun Q2020 qn2020 qx2020 qr2020 => ?_
                    refine COk.sub (ts2 := [(1, .int a1), (3, .sl 1 (List.map eInt a3)), (4, .ptr 4 0), (8, .ptr 8 0), (10, .ptr 10 0), (11, .int v18), (12, .int v19), (13, .own 213), (14, .own 76), (15, .mp 64), (16, .int (k17 : Int)), (17, .ptr 17 0), (18, .own 78), (21, .ptr 21 0), (66, .sl 5 (List.map eIns x14.code)), (67, .int (x14.code.length : Int)), (68, .int (k17 : Int))]) (os2 := [(4, .box (eWd a0) 26), (8, .box [.int (0 : Int), .str ByteArray.empty, .int (0 : Int), .int (0 : Int), .nilsl] 53), (10, .box (eMe x14) 64), (17, .box (eIns x37) 62), (21, .box (eMe x74) 64), (64, .mapo (List.map mInt v22)), (76, .row 1 (List.map eInt (v21 ++ [v19])) 3), (78, .row 5 (List.map eIns ([x37].set ((0 : Int).toNat) (⟨x47.op, x47.a, x47.b, (k17 : Int), x47.name⟩ : Ins))) 62), (213, .row 1 (List.map (eSl 5 eIns) v20) 51)]) [] ⟨⟨rfl, (by repeat (first | exact trivial | exact rfl | (refine And.intro ?_ ?_))), rfl, rfl, rfl, rfl, rfl, rfl, rfl, rfl, rfl, rfl, rfl, rfl, (by repeat (first | exact trivial | exact rfl | (refine And.intro ?_ ?_))), rfl, rfl, trivial⟩, ⟨rfl, rfl, rfl, rfl, rfl, rfl, rfl, rfl, rfl, trivial⟩, rfl, rfl⟩ (by rw [hn]; rfl) ?_
                    refine gor hn ?_
                    refine Or.inr ?_
                    refine Or.inr ?_
                    refine Or.inr ?_
                    refine lenM (fun hl76 => ?_)
                    refine Or.inr ?_
                    refine qn2020 _ _ ?_
                    refine COk.seqQ fun Q2021 qn2021 qx2021 qr2021 => ?_
                    obtain ⟨o79, h78, h69⟩ := bindM h69
                    refine COk.joinR (ι := { s : Bool // o79 = s }) (fun s => [(1, .int a1), (3, .sl 1 (List.map eInt a3)), (4, .ptr 4 0), (8, .ptr 8 0), (10, .ptr 10 0), (11, .int v18), (12, .int v19), (13, .own 213), (14, .own 76), (15, .mp 64), (16, .int (k17 : Int)), (18, .own 78), (21, .ptr 21 0), (66, .sl 5 (List.map eIns x14.code)), (67, .int (x14.code.length : Int)), (68, .int (k17 : Int)), (161, .bool s.1)]) (fun s => [(4, .box (eWd a0) 26), (8, .box [.int (0 : Int), .str ByteArray.empty, .int (0 : Int), .int (0 : Int), .nilsl] 53), (10, .box (eMe x14) 64), (21, .box (eMe x74) 64), (64, .mapo (List.map mInt v22)), (76, .row 1 (List.map eInt (v21 ++ [v19])) 3), (78, .row 5 (List.map eIns ([x37].set ((0 : Int).toNat) (⟨x47.op, x47.a, x47.b, (k17 : Int), x47.name⟩ : Ins))) 62), (213, .row 1 (List.map (eSl 5 eIns) v20) 51)]) (fun Q2022 qn2022 qx2022 qr2022 => ?_) (by intro s; rw [hn]; rfl) ?_
                    · refine COk.sub (ts2 := [(1, .int a1), (3, .sl 1 (List.map eInt a3)), (4, .ptr 4 0), (8, .ptr 8 0), (10, .ptr 10 0), (11, .int v18), (12, .int v19), (13, .own 213), (14, .own 76), (15, .mp 64), (16, .int (k17 : Int)), (17, .ptr 17 0), (18, .own 78), (21, .ptr 21 0), (22, .int (wr ((wr ((wr ((3 : Int) + x74.args)) + (wr ((2 : Int) * x74.temps)))) + (x74.code.length : Int)))), (66, .sl 5 (List.map eIns x14.code)), (67, .int (x14.code.length : Int)), (68, .int (k17 : Int))]) (os2 := [(4, .box (eWd a0) 26), (8, .box [.int (0 : Int), .str ByteArray.empty, .int (0 : Int), .int (0 : Int), .nilsl] 53), (10, .box (eMe x14) 64), (17, .box (eIns x37) 62), (21, .box (eMe x74) 64), (64, .mapo (List.map mInt v22)), (76, .row 1 (List.map eInt (v21 ++ [v19])) 3), (78, .row 5 (List.map eIns ([x37].set ((0 : Int).toNat) (⟨x47.op, x47.a, x47.b, (k17 : Int), x47.name⟩ : Ins))) 62), (213, .row 1 (List.map (eSl 5 eIns) v20) 51)]) [] ⟨⟨rfl, (by repeat (first | exact trivial | exact rfl | (refine And.intro ?_ ?_))), rfl, rfl, rfl, rfl, rfl, rfl, rfl, rfl, rfl, rfl, rfl, rfl, rfl, (by repeat (first | exact trivial | exact rfl | (refine And.intro ?_ ?_))), rfl, rfl, trivial⟩, ⟨rfl, rfl, rfl, rfl, rfl, rfl, rfl, rfl, rfl, trivial⟩, rfl, rfl⟩ (by rw [hn]; rfl) ?_
                      refine gor hn ?_
                      obtain ⟨r80, hr81, h78⟩ := bindM h78
                      show CallOk Try.prog _ _ _ _
                      refine CallOk.as (qcref5_Leaf_ok N x74 r80 hr81) (by repeat (first | exact trivial | exact rfl | (refine And.intro ?_ ?_))) trivial rfl ?_
                      refine bselM h78 (fun hb82 h78 => ?_) (fun hb82 h78 => ?_)
                      · refine bselT hb82 ?_
                        refine bselT hb82 ?_
                        refine bselT hb82 ?_
                        refine bselT hb82 ?_
                        refine bselT hb82 ?_
                        refine bselM h78 (fun hb83 h78 => ?_) (fun hb83 h78 => ?_)
                        · refine bselT hb83 ?_
                          refine bselT hb83 ?_
                          refine Or.inr ?_
                          refine bselT hb83 ?_
                          refine bselT hb83 ?_
                          refine bselT hb83 ?_
                          refine lenM (fun hl84 => ?_)
                          refine bselT hb83 ?_
                          refine Or.inr ?_
                          refine bselT hb83 ?_
                          refine bselT hb83 ?_
                          refine Or.inr ?_
                          refine bselT hb83 ?_
                          refine bselT hb83 ?_
                          refine bselM h78 (fun hb85 h78 => ?_) (fun hb85 h78 => ?_)
                          · refine bselT hb85 ?_
                            refine Or.inr ?_
                            refine bselT hb85 ?_
                            refine bselT hb85 ?_
                            refine bselT hb85 ?_
                            refine Or.inr ?_
                            refine bselT hb85 ?_
                            refine bselT hb85 ?_
                            refine bselT hb85 ?_
                            refine Or.inr ?_
                            refine bselT hb85 ?_
                            refine bselT hb85 ?_
                            refine qn2022 _ _ ?_
                            obtain rfl := Option.some.inj h78
                            refine EOk.done ?_
                            exact ⟨⟨_, rfl⟩, [], trivial, ⟨⟨rfl, (by repeat (first | exact trivial | exact rfl | (refine And.intro ?_ ?_))), rfl, rfl, rfl, rfl, rfl, rfl, rfl, rfl, rfl, rfl, rfl, (by repeat (first | exact trivial | exact rfl | (refine And.intro ?_ ?_))), rfl, rfl, rfl, trivial⟩, ⟨rfl, rfl, rfl, rfl, rfl, rfl, rfl, rfl, trivial⟩, rfl, rfl⟩⟩
                          · refine bselF hb85 ?_
                            refine bselF hb85 ?_
                            refine bselF hb85 ?_
                            refine bselF hb85 ?_
                            refine bselF hb85 ?_
                            refine bselF hb85 ?_
                            refine bselF hb85 ?_
                            refine bselF hb85 ?_
                            refine bselF hb85 ?_
                            refine qn2022 _ _ ?_
                            obtain rfl := Option.some.inj h78
                            refine EOk.done ?_
                            exact ⟨⟨_, rfl⟩, [], trivial, ⟨⟨rfl, (by repeat (first | exact trivial | exact rfl | (refine And.intro ?_ ?_))), rfl, rfl, rfl, rfl, rfl, rfl, rfl, rfl, rfl, rfl, rfl, (by repeat (first | exact trivial | exact rfl | (refine And.intro ?_ ?_))), rfl, rfl, rfl, trivial⟩, ⟨rfl, rfl, rfl, rfl, rfl, rfl, rfl, rfl, trivial⟩, rfl, rfl⟩⟩
                        · refine bselF hb83 ?_
                          refine bselF hb83 ?_
                          refine bselF hb83 ?_
                          refine bselF hb83 ?_
                          refine bselF hb83 ?_
                          refine bselF hb83 ?_
                          refine bselF hb83 ?_
                          refine bselF hb83 ?_
                          refine bselF hb83 ?_
                          refine bselF hb83 ?_
                          refine qn2022 _ _ ?_
                          obtain rfl := Option.some.inj h78
                          refine EOk.done ?_
                          exact ⟨⟨_, rfl⟩, [], trivial, ⟨⟨rfl, (by repeat (first | exact trivial | exact rfl | (refine And.intro ?_ ?_))), rfl, rfl, rfl, rfl, rfl, rfl, rfl, rfl, rfl, rfl, rfl, (by repeat (first | exact trivial | exact rfl | (refine And.intro ?_ ?_))), rfl, rfl, rfl, trivial⟩, ⟨rfl, rfl, rfl, rfl, rfl, rfl, rfl, rfl, trivial⟩, rfl, rfl⟩⟩
                      · refine bselF hb82 ?_
                        refine bselF hb82 ?_
                        refine bselF hb82 ?_
                        refine bselF hb82 ?_
                        refine bselF hb82 ?_
                        refine qn2022 _ _ ?_
                        obtain rfl := Option.some.inj h78
                        refine EOk.done ?_
                        exact ⟨⟨_, rfl⟩, [], trivial, ⟨⟨rfl, (by repeat (first | exact trivial | exact rfl | (refine And.intro ?_ ?_))), rfl, rfl, rfl, rfl, rfl, rfl, rfl, rfl, rfl, rfl, rfl, (by repeat (first | exact trivial | exact rfl | (refine And.intro ?_ ?_))), rfl, rfl, rfl, trivial⟩, ⟨rfl, rfl, rfl, rfl, rfl, rfl, rfl, rfl, trivial⟩, rfl, rfl⟩⟩
                    rintro ⟨v77, hv_⟩
                    replace hv_ := hv_.symm
                    subst hv_
                    refine qn2021 _ _ ?_
                    obtain ⟨o90, h89, h69⟩ := bindM h69
                    refine COk.joinR (ι := { s : (Int × (List (Int × Bool)) × (List Ins)) // o90 = s }) (fun s => [(1, .int a1), (3, .sl 1 (List.map eInt a3)), (4, .ptr 4 0), (8, .ptr 8 0), (10, .ptr 10 0), (11, .int s.1.1), (12, .int v19), (13, .own 213), (14, .own 76), (15, .mp 64), (18, .own 169), (66, .sl 5 (List.map eIns x14.code)), (67, .int (x14.code.length : Int)), (68, .int (k17 : Int))]) (fun s => [(4, .box (eWd a0) 26), (8, .box [.int (0 : Int), .str ByteArray.empty, .int (0 : Int), .int (0 : Int), .nilsl] 53), (10, .box (eMe x14) 64), (64, .mapo (List.map mInt s.1.2.1)), (76, .row 1 (List.map eInt (v21 ++ [v19])) 3), (169, .row 5 (List.map eIns s.1.2.2) 62), (213, .row 1 (List.map (eSl 5 eIns) v20) 51)]) (fun Q2023 qn2023 qx2023 qr2023 => ?_) (by intro s; rw [hn]; rfl) ?_
                    · refine goc hn ?_
                      refine bselM h89 (fun hb91 h89 => ?_) (fun hb91 h89 => ?_)
                      · refine COk.seqQ fun Q2024 qn2024 qx2024 qr2024 => ?_
                        refine COk.sub (ts2 := [(1, .int a1), (3, .sl 1 (List.map eInt a3)), (4, .ptr 4 0), (8, .ptr 8 0), (10, .ptr 10 0), (11, .int v18), (12, .int v19), (13, .own 213), (14, .own 76), (15, .mp 64), (16, .int (k17 : Int)), (21, .ptr 21 0), (66, .sl 5 (List.map eIns x14.code)), (67, .int (x14.code.length : Int)), (68, .int (k17 : Int))]) (os2 := [(4, .box (eWd a0) 26), (8, .box [.int (0 : Int), .str ByteArray.empty, .int (0 : Int), .int (0 : Int), .nilsl] 53), (10, .box (eMe x14) 64), (21, .box (eMe x74) 64), (64, .mapo (List.map mInt v22)), (76, .row 1 (List.map eInt (v21 ++ [v19])) 3), (213, .row 1 (List.map (eSl 5 eIns) v20) 51)]) [] ⟨⟨rfl, (by repeat (first | exact trivial | exact rfl | (refine And.intro ?_ ?_))), rfl, rfl, rfl, rfl, rfl, rfl, rfl, rfl, rfl, rfl, (by repeat (first | exact trivial | exact rfl | (refine And.intro ?_ ?_))), rfl, rfl, trivial⟩, ⟨rfl, rfl, rfl, rfl, rfl, rfl, rfl, trivial⟩, rfl, rfl⟩ (by rw [hn]; rfl) ?_
                        refine god hn (by kernel_rfl) ?_
                        obtain ⟨x92, hx93, h89⟩ := bindM h89
                        refine idxM hx93 ?_
                        obtain ⟨r94, hr95, h89⟩ := bindM h89
                        show CallOk Try.prog _ _ _ _
                        refine CallOk.as ((qcref5_Piece_ok N x74 v18 x92 (k17 : Int) r94 hr95).sw 0 169) (by repeat (first | exact trivial | exact rfl | (refine And.intro ?_ ?_))) trivial rfl ?_
                        refine qn2024 _ _ ?_
                        refine COk.seqQ fun Q2025 qn2025 qx2025 qr2025 => ?_
                        refine COk.sub (ts2 := [(1, .int a1), (3, .sl 1 (List.map eInt a3)), (4, .ptr 4 0), (8, .ptr 8 0), (10, .ptr 10 0), (11, .int v18), (12, .int v19), (13, .own 213), (14, .own 76), (15, .mp 64), (16, .int (k17 : Int)), (18, .own 169), (21, .ptr 21 0), (66, .sl 5 (List.map eIns x14.code)), (67, .int (x14.code.length : Int)), (68, .int (k17 : Int))]) (os2 := [(4, .box (eWd a0) 26), (8, .box [.int (0 : Int), .str ByteArray.empty, .int (0 : Int), .int (0 : Int), .nilsl] 53), (10, .box (eMe x14) 64), (21, .box (eMe x74) 64), (64, .mapo (List.map mInt v22)), (76, .row 1 (List.map eInt (v21 ++ [v19])) 3), (169, .row 5 (List.map eIns r94) 62), (213, .row 1 (List.map (eSl 5 eIns) v20) 51)]) [] ⟨⟨rfl, (by repeat (first | exact trivial | exact rfl | (refine And.intro ?_ ?_))), rfl, rfl, rfl, rfl, rfl, rfl, rfl, rfl, rfl, rfl, rfl, (by repeat (first | exact trivial | exact rfl | (refine And.intro ?_ ?_))), rfl, rfl, trivial⟩, ⟨rfl, rfl, rfl, rfl, rfl, rfl, rfl, rfl, trivial⟩, rfl, rfl⟩ (by rw [hn]; rfl) ?_
                        refine gor hn ?_
                        refine Or.inr ?_
                        refine Or.inr ?_
                        refine Or.inr ?_
                        refine qn2025 _ _ ?_
                        refine COk.sub (ts2 := [(1, .int a1), (3, .sl 1 (List.map eInt a3)), (4, .ptr 4 0), (8, .ptr 8 0), (10, .ptr 10 0), (11, .int (wr ((wr ((wr (v18 + (1 : Int))) + x74.args)) + x74.temps))), (12, .int v19), (13, .own 213), (14, .own 76), (15, .mp 64), (16, .int (k17 : Int)), (18, .own 169), (66, .sl 5 (List.map eIns x14.code)), (67, .int (x14.code.length : Int)), (68, .int (k17 : Int))]) (os2 := [(4, .box (eWd a0) 26), (8, .box [.int (0 : Int), .str ByteArray.empty, .int (0 : Int), .int (0 : Int), .nilsl] 53), (10, .box (eMe x14) 64), (64, .mapo (List.map mInt v22)), (76, .row 1 (List.map eInt (v21 ++ [v19])) 3), (169, .row 5 (List.map eIns r94) 62), (213, .row 1 (List.map (eSl 5 eIns) v20) 51)]) [] ⟨⟨rfl, (by repeat (first | exact trivial | exact rfl | (refine And.intro ?_ ?_))), rfl, rfl, rfl, rfl, rfl, rfl, rfl, rfl, rfl, rfl, (by repeat (first | exact trivial | exact rfl | (refine And.intro ?_ ?_))), rfl, rfl, trivial⟩, ⟨rfl, rfl, rfl, rfl, rfl, rfl, rfl, trivial⟩, rfl, rfl⟩ (by rw [hn]; rfl) ?_
                        refine gor hn ?_
                        obtain ⟨hg96, h89⟩ := guardM h89
                        refine updI rfl rfl hg96 ?_
                        refine qn2023 _ _ ?_
                        obtain rfl := Option.some.inj h89
                        refine EOk.done ?_
                        exact ⟨⟨_, rfl⟩, [], trivial, ⟨⟨rfl, (by repeat (first | exact trivial | exact rfl | (refine And.intro ?_ ?_))), rfl, rfl, rfl, rfl, rfl, rfl, rfl, rfl, rfl, (by repeat (first | exact trivial | exact rfl | (refine And.intro ?_ ?_))), rfl, rfl, trivial⟩, ⟨rfl, rfl, rfl, rfl, rfl, rfl, rfl, trivial⟩, rfl, rfl⟩⟩
                      · refine gok hn ?_
                        refine qn2023 _ _ ?_
                        obtain rfl := Option.some.inj h89
                        refine EOk.done ?_
                        exact ⟨⟨_, rfl⟩, [(169, 78)], trivial, ⟨⟨rfl, (by repeat (first | exact trivial | exact rfl | (refine And.intro ?_ ?_))), rfl, rfl, rfl, rfl, rfl, rfl, rfl, rfl, rfl, (by repeat (first | exact trivial | exact rfl | (refine And.intro ?_ ?_))), rfl, rfl, trivial⟩, ⟨rfl, rfl, rfl, rfl, rfl, rfl, rfl, trivial⟩, rfl, rfl⟩⟩
                    rintro ⟨⟨v86, v87, v88⟩, rfl⟩
                    refine qn2018 _ _ ?_
                    obtain rfl := Option.some.inj h69
                    refine EOk.done ?_
                    exact ⟨⟨_, rfl⟩, [], trivial, ⟨⟨rfl, (by repeat (first | exact trivial | exact rfl | (refine And.intro ?_ ?_))), rfl, rfl, rfl, rfl, rfl, rfl, rfl, rfl, rfl, (by repeat (first | exact trivial | exact rfl | (refine And.intro ?_ ?_))), rfl, rfl, trivial⟩, ⟨rfl, rfl, rfl, rfl, rfl, rfl, rfl, trivial⟩, rfl, rfl⟩⟩
                  · refine gok hn ?_
                    refine qn2018 _ _ ?_
                    obtain rfl := Option.some.inj h69
                    refine EOk.done ?_
                    exact ⟨⟨_, rfl⟩, [(169, 78)], trivial, ⟨⟨rfl, (by repeat (first | exact trivial | exact rfl | (refine And.intro ?_ ?_))), rfl, rfl, rfl, rfl, rfl, rfl, rfl, rfl, rfl, (by repeat (first | exact trivial | exact rfl | (refine And.intro ?_ ?_))), rfl, rfl, trivial⟩, ⟨rfl, rfl, rfl, rfl, rfl, rfl, rfl, trivial⟩, rfl, rfl⟩⟩
                rintro ⟨⟨v66, v67, v68⟩, rfl⟩
                refine qn2015 _ _ ?_
                obtain rfl := Option.some.inj h59
                refine EOk.done ?_
                exact ⟨⟨_, rfl⟩, [], trivial, ⟨⟨rfl, (by repeat (first | exact trivial | exact rfl | (refine And.intro ?_ ?_))), rfl, rfl, rfl, rfl, rfl, rfl, rfl, rfl, rfl, (by repeat (first | exact trivial | exact rfl | (refine And.intro ?_ ?_))), rfl, rfl, trivial⟩, ⟨rfl, rfl, rfl, rfl, rfl, rfl, rfl, trivial⟩, rfl, rfl⟩⟩
              · refine gok hn ?_
                refine qn2015 _ _ ?_
                obtain rfl := Option.some.inj h59
                refine EOk.done ?_
                exact ⟨⟨_, rfl⟩, [(169, 78)], trivial, ⟨⟨rfl, (by repeat (first | exact trivial | exact rfl | (refine And.intro ?_ ?_))), rfl, rfl, rfl, rfl, rfl, rfl, rfl, rfl, rfl, (by repeat (first | exact trivial | exact rfl | (refine And.intro ?_ ?_))), rfl, rfl, trivial⟩, ⟨rfl, rfl, rfl, rfl, rfl, rfl, rfl, trivial⟩, rfl, rfl⟩⟩
            rintro ⟨⟨v56, v57, v58⟩, rfl⟩
            refine qn2011 _ _ ?_
            obtain rfl := Option.some.inj h44
            refine EOk.done ?_
            exact ⟨⟨_, rfl⟩, [], trivial, ⟨⟨rfl, (by repeat (first | exact trivial | exact rfl | (refine And.intro ?_ ?_))), rfl, rfl, rfl, rfl, rfl, rfl, rfl, rfl, rfl, (by repeat (first | exact trivial | exact rfl | (refine And.intro ?_ ?_))), rfl, rfl, trivial⟩, ⟨rfl, rfl, rfl, rfl, rfl, rfl, rfl, trivial⟩, rfl, rfl⟩⟩
          · refine gok hn ?_
            refine qn2011 _ _ ?_
            obtain rfl := Option.some.inj h44
            refine EOk.done ?_
            exact ⟨⟨_, rfl⟩, [(169, 78)], trivial, ⟨⟨rfl, (by repeat (first | exact trivial | exact rfl | (refine And.intro ?_ ?_))), rfl, rfl, rfl, rfl, rfl, rfl, rfl, rfl, rfl, (by repeat (first | exact trivial | exact rfl | (refine And.intro ?_ ?_))), rfl, rfl, trivial⟩, ⟨rfl, rfl, rfl, rfl, rfl, rfl, rfl, trivial⟩, rfl, rfl⟩⟩
        rintro ⟨⟨v41, v42, v43⟩, rfl⟩
        refine qn2009 _ _ ?_
        refine COk.seqQ fun Q2026 qn2026 qx2026 qr2026 => ?_
        refine gor hn ?_
        refine lenM (fun hl97 => ?_)
        refine Or.inr ?_
        refine qn2026 _ _ ?_
        refine COk.sub (ts2 := [(1, .int a1), (3, .sl 1 (List.map eInt a3)), (4, .ptr 4 0), (8, .ptr 8 0), (10, .ptr 10 0), (11, .int v41), (12, .int (wr (v19 + (v43.length : Int)))), (13, .own 213), (14, .own 76), (15, .mp 64), (18, .own 169), (66, .sl 5 (List.map eIns x14.code)), (67, .int (x14.code.length : Int)), (68, .int (k17 : Int))]) (os2 := [(4, .box (eWd a0) 26), (8, .box [.int (0 : Int), .str ByteArray.empty, .int (0 : Int), .int (0 : Int), .nilsl] 53), (10, .box (eMe x14) 64), (64, .mapo (List.map mInt v42)), (76, .row 1 (List.map eInt (v21 ++ [v19])) 3), (169, .row 5 (List.map eIns v43) 62), (213, .row 1 (List.map (eSl 5 eIns) v20) 51)]) [] ⟨⟨rfl, (by repeat (first | exact trivial | exact rfl | (refine And.intro ?_ ?_))), rfl, rfl, rfl, rfl, rfl, rfl, rfl, rfl, rfl, (by repeat (first | exact trivial | exact rfl | (refine And.intro ?_ ?_))), rfl, rfl, trivial⟩, ⟨rfl, rfl, rfl, rfl, rfl, rfl, rfl, trivial⟩, rfl, rfl⟩ (by rw [hn]; rfl) ?_
        refine gor hn ?_
        refine Exists.intro (List.map (eSl 5 eIns) [v43]) (And.intro (by repeat (first | exact trivial | exact rfl | (refine And.intro ?_ ?_))) ?_)
        obtain ⟨hg98, h33⟩ := guardM h33
        refine appM (l2 := [v43]) hg98 (leLs_refl _) ?_
        refine qn2005 _ _ ?_
        refine qn1904 _ _ ?_
        refine COk.sub (ts2 := [(1, .int a1), (3, .sl 1 (List.map eInt a3)), (4, .ptr 4 0), (8, .ptr 8 0), (10, .ptr 10 0), (11, .int v41), (12, .int (wr (v19 + (v43.length : Int)))), (13, .own 187), (14, .own 76), (15, .mp 64), (66, .sl 5 (List.map eIns x14.code)), (67, .int (x14.code.length : Int)), (68, .int (k17 : Int))]) (os2 := [(4, .box (eWd a0) 26), (8, .box [.int (0 : Int), .str ByteArray.empty, .int (0 : Int), .int (0 : Int), .nilsl] 53), (10, .box (eMe x14) 64), (64, .mapo (List.map mInt v42)), (76, .row 1 (List.map eInt (v21 ++ [v19])) 3), (187, .row 1 (List.map (eSl 5 eIns) (v20 ++ [v43])) 51)]) [] ⟨⟨rfl, (by repeat (first | exact trivial | exact rfl | (refine And.intro ?_ ?_))), rfl, rfl, rfl, rfl, rfl, rfl, rfl, rfl, (by repeat (first | exact trivial | exact rfl | (refine And.intro ?_ ?_))), rfl, rfl, trivial⟩, ⟨rfl, rfl, rfl, rfl, rfl, rfl, trivial⟩, rfl, rfl⟩ (by rw [hn]; rfl) ?_
        refine gor hn ?_
        refine Or.inl (And.intro (inrK hx38 hl16) ?_)
        refine qn1899 _ _ ?_
        refine EOk.done ?_
        exact ⟨⟨(rest34, k17 + 1, v41, (wr (v19 + (v43.length : Int))), (v20 ++ [v43]), (v21 ++ [v19]), v42), hd2, h33⟩, [(213, 187), (214, 76)], by show rest34.length < rest34.length + 1; omega, ⟨⟨rfl, (by repeat (first | exact trivial | exact rfl | (refine And.intro ?_ ?_))), rfl, rfl, rfl, rfl, rfl, rfl, rfl, rfl, (by repeat (first | exact trivial | exact rfl | (refine And.intro ?_ ?_))), rfl, rfl, trivial⟩, ⟨rfl, rfl, rfl, rfl, rfl, rfl, trivial⟩, rfl, rfl⟩⟩
    rintro ⟨⟨v28, v29, v30, v31⟩, rfl⟩
    refine qn1395 _ _ ?_
    refine COk.seqQ fun Q2027 qn2027 qx2027 qr2027 => ?_
    refine COk.seqQ fun Q2028 qn2028 qx2028 qr2028 => ?_
    refine gor hn ?_
    refine lenMp (fun _ => ?_)
    refine qn2028 _ _ ?_
    refine goc hn ?_
    refine bselM h (fun hb99 h => ?_) (fun hb99 h => ?_)
    · refine COk.seqQ fun Q2030 qn2030 qx2030 qr2030 => ?_
      refine gor hn ?_
      refine qn2030 _ _ ?_
      refine got hn ?_
      refine qr2027 _ _ ?_
      obtain rfl := Option.some.inj h
      exact ⟨[], _, rfl, (by repeat (first | exact trivial | exact rfl | (refine And.intro ?_ ?_))), trivial, rfl, rfl, rfl, rfl, rfl⟩
    · refine gok hn ?_
      refine qn2027 _ _ ?_
      refine COk.seqQ fun Q2031 qn2031 qx2031 qr2031 => ?_
      refine gor hn ?_
      refine qn2031 _ _ ?_
      refine COk.seqQ fun Q2032 qn2032 qx2032 qr2032 => ?_
      refine COk.seqQ fun Q2033 qn2033 qx2033 qr2033 => ?_
      refine COk.sub (ts2 := [(8, .ptr 8 0), (13, .own 213), (14, .own 214), (15, .mp 64), (23, .ptr 23 0)]) (os2 := [(8, .box [.int (0 : Int), .str ByteArray.empty, .int (0 : Int), .int (0 : Int), .nilsl] 53), (23, .box [.int a1, .str x14.name, .int a0.epoch, .int v28, .nilsl] 53), (64, .mapo (List.map mInt v31)), (213, .row 1 (List.map (eSl 5 eIns) v29) 51), (214, .row 1 (List.map eInt v30) 3)]) [] ⟨⟨rfl, rfl, rfl, rfl, rfl, trivial⟩, ⟨rfl, rfl, rfl, rfl, rfl, trivial⟩, rfl, rfl⟩ (by rw [hn]; rfl) ?_
      refine gor hn ?_
      refine lenM (fun hl100 => ?_)
      refine qn2033 _ _ ?_
      refine COk.nilrowB 23 4 601 5 62 rfl rfl rfl rfl rfl rfl ?_
      obtain ⟨o105, h106, h⟩ := bindM h
      refine COk.joinR (ι := { s : (List Ins) // o105 = s }) (fun s => [(8, .ptr 8 0), (23, .ptr 23 0)]) (fun s => [(8, .box [.int (0 : Int), .str ByteArray.empty, .int (0 : Int), .int (0 : Int), .nilsl] 53), (23, .box [.int a1, .str x14.name, .int a0.epoch, .int v28, .own 601] 53), (601, .row 5 (List.map eIns s.1) 62)]) (fun Q2614 qn2614 qx2614 qr2614 => ?_) (by intro s; rw [hn]; rfl) ?_
      · refine COk.blkQ fun Q2615 qn2615 qe2615 qx2615 qr2615 => ?_
        refine COk.loopQ (ι := { q : ((List (List Ins)) × Nat × (List Ins)) // q.1 = v29.drop q.2.1 ∧ qcref5_Fast_l2 N v29 v30 v31 q.1 q.2.1 q.2.2 = some o105 }) (fun q => [(8, .ptr 8 0), (14, .own 214), (15, .mp 64), (23, .ptr 23 0), (200, .own 213), (201, .int (v29.length : Int)), (202, .int (q.1.2.1 : Int))]) (fun q => [(8, .box [.int (0 : Int), .str ByteArray.empty, .int (0 : Int), .int (0 : Int), .nilsl] 53), (23, .box [.int a1, .str x14.name, .int a0.epoch, .int v28, .own 601] 53), (64, .mapo (List.map mInt v31)), (213, .row 1 (List.map (eSl 5 eIns) v29) 51), (214, .row 1 (List.map eInt v30) 3), (601, .row 5 (List.map eIns q.1.2.2) 62)]) (fun q => q.1.1.length) ⟨(v29, 0, ([] : List Ins)), rfl, h106⟩ [] ⟨⟨rfl, rfl, rfl, rfl, rfl, rfl, rfl, trivial⟩, ⟨rfl, rfl, rfl, rfl, rfl, rfl, trivial⟩, rfl, rfl⟩ (by intro q; rw [hn]; rfl) ?_
        rintro ⟨⟨rest_, k101, v102⟩, hd108, h106⟩ Q2616 qn2616 qx2616 qr2616
        replace hd108 : rest_ = v29.drop k101 := hd108
        rcases rest_ with _ | ⟨x110, rest107⟩
        · have hlt112 := restNil hd108
          replace h106 := (qcref5_Fast_l2.eq_1 _ _ _ _ _ _).symm.trans h106
          refine COk.seqQ fun Q2617 qn2617 qx2617 qr2617 => ?_
          refine gor hn ?_
          refine qn2617 _ _ ?_
          refine COk.seqQ fun Q2618 qn2618 qx2618 qr2618 => ?_
          refine goc hn ?_
          refine bselF hlt112 ?_
          refine goe hn ?_
          refine qx2618 _ _ _ ?_
          refine qx2616 _ _ _ ?_
          refine qe2615 _ _ ?_
          refine qn2614 _ _ ?_
          obtain rfl := Option.some.inj h106
          refine EOk.done ?_
          exact ⟨⟨_, rfl⟩, [], trivial, ⟨⟨rfl, rfl, trivial⟩, ⟨rfl, rfl, rfl, trivial⟩, rfl, rfl⟩⟩
        · obtain ⟨hx111, hd2, hlt112⟩ := restCons hd108
          replace h106 := (qcref5_Fast_l2.eq_2 _ _ _ _ _ _ _ _).symm.trans h106
          refine COk.seqQ fun Q2619 qn2619 qx2619 qr2619 => ?_
          refine gor hn ?_
          refine qn2619 _ _ ?_
          refine COk.seqQ fun Q2620 qn2620 qx2620 qr2620 => ?_
          refine goc hn ?_
          refine bselT hlt112 ?_
          refine gok hn ?_
          refine qn2620 _ _ ?_
          refine COk.seqQ fun Q2621 qn2621 qx2621 qr2621 => ?_
          refine COk.blkQ fun Q2714 qn2714 qe2714 qx2714 qr2714 => ?_
          refine COk.seqQ fun Q2715 qn2715 qx2715 qr2715 => ?_
          refine gor hn ?_
          obtain ⟨x113, hx114, h106⟩ := bindM h106
          refine ownM hx114 ?_
          refine ldM (nthO_some hx114).2 ?_
          refine qn2715 _ _ ?_
          refine COk.seqQ fun Q2716 qn2716 qx2716 qr2716 => ?_
          refine gor hn ?_
          refine lenM (fun hl115 => ?_)
          refine qn2716 _ _ ?_
          obtain ⟨o120, h121, h106⟩ := bindM h106
          refine COk.joinR (ι := { s : (List Ins) // o120 = s }) (fun s => [(8, .ptr 8 0), (14, .own 214), (15, .mp 64), (23, .ptr 23 0), (200, .own 213), (201, .int (v29.length : Int)), (202, .int (k101 : Int))]) (fun s => [(8, .box [.int (0 : Int), .str ByteArray.empty, .int (0 : Int), .int (0 : Int), .nilsl] 53), (23, .box [.int a1, .str x14.name, .int a0.epoch, .int v28, .own 601] 53), (64, .mapo (List.map mInt v31)), (213, .row 1 (List.map (eSl 5 eIns) v29) 51), (214, .row 1 (List.map eInt v30) 3), (601, .row 5 (List.map eIns s.1) 62)]) (fun Q2750 qn2750 qx2750 qr2750 => ?_) (by intro s; rw [hn]; rfl) ?_
          · refine COk.blkQ fun Q2751 qn2751 qe2751 qx2751 qr2751 => ?_
            refine COk.loopQ (ι := { q : ((List Ins) × Nat × (List Ins)) // q.1 = x113.drop q.2.1 ∧ qcref5_Fast_l3 N v30 v31 k101 q.1 q.2.1 q.2.2 = some o120 }) (fun q => [(8, .ptr 8 0), (14, .own 214), (15, .mp 64), (23, .ptr 23 0), (24, .int (k101 : Int)), (200, .own 213), (201, .int (v29.length : Int)), (202, .int (k101 : Int)), (207, .sl 5 (List.map eIns x113)), (208, .int (x113.length : Int)), (209, .int (q.1.2.1 : Int))]) (fun q => [(8, .box [.int (0 : Int), .str ByteArray.empty, .int (0 : Int), .int (0 : Int), .nilsl] 53), (23, .box [.int a1, .str x14.name, .int a0.epoch, .int v28, .own 601] 53), (64, .mapo (List.map mInt v31)), (213, .row 1 (List.map (eSl 5 eIns) v29) 51), (214, .row 1 (List.map eInt v30) 3), (601, .row 5 (List.map eIns q.1.2.2) 62)]) (fun q => q.1.1.length) ⟨(x113, 0, v102), rfl, h121⟩ [] ⟨⟨rfl, rfl, rfl, rfl, rfl, rfl, rfl, rfl, (by repeat (first | exact trivial | exact rfl | (refine And.intro ?_ ?_))), rfl, rfl, trivial⟩, ⟨rfl, rfl, rfl, rfl, rfl, rfl, trivial⟩, rfl, rfl⟩ (by intro q; rw [hn]; rfl) ?_
            rintro ⟨⟨rest_, k116, v117⟩, hd123, h121⟩ Q2752 qn2752 qx2752 qr2752
            replace hd123 : rest_ = x113.drop k116 := hd123
            rcases rest_ with _ | ⟨x125, rest122⟩
            · have hlt127 := restNil hd123
              replace h121 := (qcref5_Fast_l3.eq_1 _ _ _ _ _ _).symm.trans h121
              refine COk.seqQ fun Q2753 qn2753 qx2753 qr2753 => ?_
              refine gor hn ?_
              refine qn2753 _ _ ?_
              refine COk.seqQ fun Q2754 qn2754 qx2754 qr2754 => ?_
              refine goc hn ?_
              refine bselF hlt127 ?_
              refine goe hn ?_
              refine qx2754 _ _ _ ?_
              refine qx2752 _ _ _ ?_
              refine qe2751 _ _ ?_
              refine qn2750 _ _ ?_
              obtain rfl := Option.some.inj h121
              refine EOk.done ?_
              exact ⟨⟨_, rfl⟩, [], trivial, ⟨⟨rfl, rfl, rfl, rfl, rfl, rfl, rfl, trivial⟩, ⟨rfl, rfl, rfl, rfl, rfl, rfl, trivial⟩, rfl, rfl⟩⟩
            · obtain ⟨hx126, hd2, hlt127⟩ := restCons hd123
              replace h121 := (qcref5_Fast_l3.eq_2 _ _ _ _ _ _ _ _).symm.trans h121
              refine COk.seqQ fun Q2755 qn2755 qx2755 qr2755 => ?_
              refine gor hn ?_
              refine qn2755 _ _ ?_
              refine COk.seqQ fun Q2756 qn2756 qx2756 qr2756 => ?_
              refine goc hn ?_
              refine bselT hlt127 ?_
              refine gok hn ?_
              refine qn2756 _ _ ?_
              refine COk.seqQ fun Q2757 qn2757 qx2757 qr2757 => ?_
              refine COk.blkQ fun Q2758 qn2758 qe2758 qx2758 qr2758 => ?_
              refine COk.seqQ fun Q2759 qn2759 qx2759 qr2759 => ?_
              refine gor hn ?_
              refine idxK hx126 ?_
              refine qn2759 _ _ ?_
              refine COk.seqQ fun Q2760 qn2760 qx2760 qr2760 => ?_
              refine COk.seqQ fun Q2761 qn2761 qx2761 qr2761 => ?_
              obtain ⟨o130, h129, h121⟩ := bindM h121
              refine COk.joinR (ι := { s : Bool // o130 = s }) (fun s => [(8, .ptr 8 0), (14, .own 214), (15, .mp 64), (23, .ptr 23 0), (24, .int (k101 : Int)), (27, .ptr 27 0), (200, .own 213), (201, .int (v29.length : Int)), (202, .int (k101 : Int)), (207, .sl 5 (List.map eIns x113)), (208, .int (x113.length : Int)), (209, .int (k116 : Int)), (220, .bool s.1)]) (fun s => [(8, .box [.int (0 : Int), .str ByteArray.empty, .int (0 : Int), .int (0 : Int), .nilsl] 53), (23, .box [.int a1, .str x14.name, .int a0.epoch, .int v28, .own 601] 53), (27, .box (eIns x125) 62), (64, .mapo (List.map mInt v31)), (213, .row 1 (List.map (eSl 5 eIns) v29) 51), (214, .row 1 (List.map eInt v30) 3), (601, .row 5 (List.map eIns v117) 62)]) (fun Q2762 qn2762 qx2762 qr2762 => ?_) (by intro s; rw [hn]; rfl) ?_
              · refine gor hn ?_
                refine bselM h129 (fun hb131 h129 => ?_) (fun hb131 h129 => ?_)
                · refine bselT hb131 ?_
                  refine bselT hb131 ?_
                  refine bselT hb131 ?_
                  refine qn2762 _ _ ?_
                  obtain rfl := Option.some.inj h129
                  refine EOk.done ?_
                  exact ⟨⟨_, rfl⟩, [], trivial, ⟨⟨rfl, rfl, rfl, rfl, rfl, rfl, rfl, rfl, rfl, (by repeat (first | exact trivial | exact rfl | (refine And.intro ?_ ?_))), rfl, rfl, rfl, trivial⟩, ⟨rfl, rfl, rfl, rfl, rfl, rfl, rfl, trivial⟩, rfl, rfl⟩⟩
                · refine bselF hb131 ?_
                  refine bselF hb131 ?_
                  refine bselF hb131 ?_
                  refine qn2762 _ _ ?_
                  obtain rfl := Option.some.inj h129
                  refine EOk.done ?_
                  exact ⟨⟨_, rfl⟩, [], trivial, ⟨⟨rfl, rfl, rfl, rfl, rfl, rfl, rfl, rfl, rfl, (by repeat (first | exact trivial | exact rfl | (refine And.intro ?_ ?_))), rfl, rfl, rfl, trivial⟩, ⟨rfl, rfl, rfl, rfl, rfl, rfl, rfl, trivial⟩, rfl, rfl⟩⟩
              rintro ⟨v128, hv_⟩
              replace hv_ := hv_.symm
              subst hv_
              refine qn2761 _ _ ?_
              obtain ⟨o134, h133, h121⟩ := bindM h121
              refine COk.joinR (ι := { s : Ins // o134 = s }) (fun s => [(8, .ptr 8 0), (14, .own 214), (15, .mp 64), (23, .ptr 23 0), (24, .int (k101 : Int)), (27, .ptr 27 0), (200, .own 213), (201, .int (v29.length : Int)), (202, .int (k101 : Int)), (207, .sl 5 (List.map eIns x113)), (208, .int (x113.length : Int)), (209, .int (k116 : Int))]) (fun s => [(8, .box [.int (0 : Int), .str ByteArray.empty, .int (0 : Int), .int (0 : Int), .nilsl] 53), (23, .box [.int a1, .str x14.name, .int a0.epoch, .int v28, .own 601] 53), (27, .box (eIns s.1) 62), (64, .mapo (List.map mInt v31)), (213, .row 1 (List.map (eSl 5 eIns) v29) 51), (214, .row 1 (List.map eInt v30) 3), (601, .row 5 (List.map eIns v117) 62)]) (fun Q2763 qn2763 qx2763 qr2763 => ?_) (by intro s; rw [hn]; rfl) ?_
              · refine goc hn ?_
                refine bselM h133 (fun hb135 h133 => ?_) (fun hb135 h133 => ?_)
                · refine COk.seqQ fun Q2764 qn2764 qx2764 qr2764 => ?_
                  refine gor hn ?_
                  refine lookI rfl rfl rfl rfl ?_
                  refine qn2764 _ _ ?_
                  obtain ⟨o138, h137, h133⟩ := bindM h133
                  refine COk.joinR (ι := { s : Int // o138 = s }) (fun s => [(8, .ptr 8 0), (14, .own 214), (15, .mp 64), (23, .ptr 23 0), (24, .int (k101 : Int)), (27, .ptr 27 0), (200, .own 213), (201, .int (v29.length : Int)), (202, .int (k101 : Int)), (207, .sl 5 (List.map eIns x113)), (208, .int (x113.length : Int)), (209, .int (k116 : Int))]) (fun s => [(8, .box [.int (0 : Int), .str ByteArray.empty, .int (0 : Int), .int (0 : Int), .nilsl] 53), (23, .box [.int a1, .str x14.name, .int a0.epoch, .int v28, .own 601] 53), (27, .box [.int x125.op, .int s.1, .int x125.b, .int x125.c, .str x125.name] 62), (64, .mapo (List.map mInt v31)), (213, .row 1 (List.map (eSl 5 eIns) v29) 51), (214, .row 1 (List.map eInt v30) 3), (601, .row 5 (List.map eIns v117) 62)]) (fun Q2765 qn2765 qx2765 qr2765 => ?_) (by intro s; rw [hn]; rfl) ?_
                  · refine goc hn ?_
                    refine bselM h137 (fun hb139 h137 => ?_) (fun hb139 h137 => ?_)
                    · refine god hn (by kernel_rfl) ?_
                      obtain ⟨x140, hx141, h137⟩ := bindM h137
                      refine ownM hx141 ?_
                      refine ldM (nthO_some hx141).2 ?_
                      refine Or.inr ?_
                      refine qn2765 _ _ ?_
                      obtain rfl := Option.some.inj h137
                      refine EOk.done ?_
                      exact ⟨⟨_, rfl⟩, [], trivial, ⟨⟨rfl, rfl, rfl, rfl, rfl, rfl, rfl, rfl, rfl, (by repeat (first | exact trivial | exact rfl | (refine And.intro ?_ ?_))), rfl, rfl, trivial⟩, ⟨rfl, rfl, rfl, rfl, rfl, rfl, rfl, trivial⟩, rfl, rfl⟩⟩
                    · refine gor hn ?_
                      obtain ⟨x142, hx143, h137⟩ := bindM h137
                      refine ownM hx143 ?_
                      refine ldM (nthO_some hx143).2 ?_
                      refine qn2765 _ _ ?_
                      obtain rfl := Option.some.inj h137
                      refine EOk.done ?_
                      exact ⟨⟨_, rfl⟩, [], trivial, ⟨⟨rfl, rfl, rfl, rfl, rfl, rfl, rfl, rfl, rfl, (by repeat (first | exact trivial | exact rfl | (refine And.intro ?_ ?_))), rfl, rfl, trivial⟩, ⟨rfl, rfl, rfl, rfl, rfl, rfl, rfl, trivial⟩, rfl, rfl⟩⟩
                  rintro ⟨v136, hv_⟩
                  replace hv_ := hv_.symm
                  subst hv_
                  refine qn2763 _ _ ?_
                  obtain rfl := Option.some.inj h133
                  refine EOk.done ?_
                  exact ⟨⟨_, rfl⟩, [], trivial, ⟨⟨rfl, rfl, rfl, rfl, rfl, rfl, rfl, rfl, rfl, (by repeat (first | exact trivial | exact rfl | (refine And.intro ?_ ?_))), rfl, rfl, trivial⟩, ⟨rfl, rfl, rfl, rfl, rfl, rfl, rfl, trivial⟩, rfl, rfl⟩⟩
                · refine gok hn ?_
                  refine qn2763 _ _ ?_
                  obtain rfl := Option.some.inj h133
                  refine EOk.done ?_
                  exact ⟨⟨_, rfl⟩, [], trivial, ⟨⟨rfl, rfl, rfl, rfl, rfl, rfl, rfl, rfl, rfl, (by repeat (first | exact trivial | exact rfl | (refine And.intro ?_ ?_))), rfl, rfl, trivial⟩, ⟨rfl, rfl, rfl, rfl, rfl, rfl, rfl, trivial⟩, rfl, rfl⟩⟩
              rintro ⟨v132, hv_⟩
              replace hv_ := hv_.symm
              subst hv_
              refine qn2760 _ _ ?_
              refine gor hn ?_
              refine Exists.intro (List.map eIns [v132]) (And.intro (by repeat (first | exact trivial | exact rfl | (refine And.intro ?_ ?_))) ?_)
              obtain ⟨hg144, h121⟩ := guardM h121
              refine appM (l2 := [v132]) hg144 (leLs_refl _) ?_
              refine qn2758 _ _ ?_
              refine qn2757 _ _ ?_
              refine COk.sub (ts2 := [(8, .ptr 8 0), (14, .own 214), (15, .mp 64), (23, .ptr 23 0), (24, .int (k101 : Int)), (200, .own 213), (201, .int (v29.length : Int)), (202, .int (k101 : Int)), (207, .sl 5 (List.map eIns x113)), (208, .int (x113.length : Int)), (209, .int (k116 : Int))]) (os2 := [(8, .box [.int (0 : Int), .str ByteArray.empty, .int (0 : Int), .int (0 : Int), .nilsl] 53), (23, .box [.int a1, .str x14.name, .int a0.epoch, .int v28, .own 242] 53), (64, .mapo (List.map mInt v31)), (213, .row 1 (List.map (eSl 5 eIns) v29) 51), (214, .row 1 (List.map eInt v30) 3), (242, .row 5 (List.map eIns (v117 ++ [v132])) 62)]) [] ⟨⟨rfl, rfl, rfl, rfl, rfl, rfl, rfl, rfl, (by repeat (first | exact trivial | exact rfl | (refine And.intro ?_ ?_))), rfl, rfl, trivial⟩, ⟨rfl, rfl, rfl, rfl, rfl, rfl, trivial⟩, rfl, rfl⟩ (by rw [hn]; rfl) ?_
              refine gor hn ?_
              refine Or.inl (And.intro (inrK hx126 hl115) ?_)
              refine qn2752 _ _ ?_
              refine EOk.done ?_
              exact ⟨⟨(rest122, k116 + 1, (v117 ++ [v132])), hd2, h121⟩, [(601, 242)], by show rest122.length < rest122.length + 1; omega, ⟨⟨rfl, rfl, rfl, rfl, rfl, rfl, rfl, rfl, (by repeat (first | exact trivial | exact rfl | (refine And.intro ?_ ?_))), rfl, rfl, trivial⟩, ⟨rfl, rfl, rfl, rfl, rfl, rfl, trivial⟩, rfl, rfl⟩⟩
          rintro ⟨v119, hv_⟩
          replace hv_ := hv_.symm
          subst hv_
          refine qn2714 _ _ ?_
          refine qn2621 _ _ ?_
          refine gor hn ?_
          refine Or.inl (And.intro (inrK hx111 hl100) ?_)
          refine qn2616 _ _ ?_
          refine EOk.done ?_
          exact ⟨⟨(rest107, k101 + 1, v119), hd2, h106⟩, [], by show rest107.length < rest107.length + 1; omega, ⟨⟨rfl, rfl, rfl, rfl, rfl, rfl, rfl, trivial⟩, ⟨rfl, rfl, rfl, rfl, rfl, rfl, trivial⟩, rfl, rfl⟩⟩
      rintro ⟨v104, hv_⟩
      replace hv_ := hv_.symm
      subst hv_
      refine qn2032 _ _ ?_
      refine COk.seqQ fun Q2766 qn2766 qx2766 qr2766 => ?_
      refine gor hn ?_
      refine qn2766 _ _ ?_
      refine COk.fzAll 601 rfl ?_
      refine got hn ?_
      obtain rfl := Option.some.inj h
      exact ⟨[], _, rfl, (by repeat (first | exact trivial | exact rfl | (refine And.intro ?_ ?_))), trivial, rfl, rfl, rfl, rfl, rfl⟩

/- qcref1.SameCode -/
set_option maxRecDepth 100000 in
set_option maxHeartbeats 1000000 in
theorem qcref1_SameCode_ok (N : Nat) (a0 : (List Ins)) (a1 : (List Ins)) (r : Bool) (h : qcref1_SameCode N a0 a1 = some r) : Spec Try.prog 45 [] [.sl 5 (List.map eIns a0), .sl 5 (List.map eIns a1)] (.bool r) [] [] := by
  refine Spec.of tabOk Try.func45 rfl Try.ntmps45 (by kernel_rfl) rfl rfl rfl fun Γ hn => ?_
  unfold qcref1_SameCode at h
  refine COk.seqQ fun Q45 qn45 qx45 qr45 => ?_
  refine gor hn ?_
  refine qn45 _ _ ?_
  refine COk.seqQ fun Q46 qn46 qx46 qr46 => ?_
  refine COk.seqQ fun Q47 qn47 qx47 qr47 => ?_
  refine gor hn ?_
  refine lenM (fun hl1 => ?_)
  refine lenM (fun hl2 => ?_)
  refine qn47 _ _ ?_
  refine goc hn ?_
  refine bselM h (fun hb3 h => ?_) (fun hb3 h => ?_)
  · refine COk.seqQ fun Q49 qn49 qx49 qr49 => ?_
    refine gor hn ?_
    refine qn49 _ _ ?_
    refine got hn ?_
    refine qr46 _ _ ?_
    obtain rfl := Option.some.inj h
    exact ⟨[], _, rfl, (by repeat (first | exact trivial | exact rfl | (refine And.intro ?_ ?_))), trivial, rfl, rfl, rfl, rfl, rfl⟩
  · refine gok hn ?_
    refine qn46 _ _ ?_
    refine COk.seqQ fun Q50 qn50 qx50 qr50 => ?_
    refine COk.seqQ fun Q51 qn51 qx51 qr51 => ?_
    refine gor hn ?_
    refine lenM (fun hl4 => ?_)
    refine qn51 _ _ ?_
    obtain ⟨o6, h7, h⟩ := bindM h
    refine COk.joinR (ι := { s : Unit // o6 = Ctl.next s }) (fun s => []) (fun s => []) (fun Q71 qn71 qx71 qr71 => ?_) (by intro s; rw [hn]; rfl) ?_
    · refine COk.blkQ fun Q72 qn72 qe72 qx72 qr72 => ?_
      refine COk.loopQ (ι := { q : ((List Ins) × Nat) // q.1 = a0.drop q.2 ∧ qcref1_SameCode_l1 N a1 q.1 q.2 = some o6 }) (fun q => [(0, .sl 5 (List.map eIns a0)), (1, .sl 5 (List.map eIns a1)), (12, .int (a0.length : Int)), (13, .int (q.1.2 : Int))]) (fun q => []) (fun q => q.1.1.length) ⟨(a0, 0), rfl, h7⟩ [] ⟨⟨(by repeat (first | exact trivial | exact rfl | (refine And.intro ?_ ?_))), (by repeat (first | exact trivial | exact rfl | (refine And.intro ?_ ?_))), rfl, rfl, trivial⟩, trivial, rfl, rfl⟩ (by intro q; rw [hn]; rfl) ?_
      rintro ⟨⟨rest_, k5⟩, hd9, h7⟩ Q73 qn73 qx73 qr73
      replace hd9 : rest_ = a0.drop k5 := hd9
      rcases rest_ with _ | ⟨x11, rest8⟩
      · have hlt13 := restNil hd9
        replace h7 := (qcref1_SameCode_l1.eq_1 _ _ _).symm.trans h7
        refine COk.seqQ fun Q74 qn74 qx74 qr74 => ?_
        refine gor hn ?_
        refine qn74 _ _ ?_
        refine COk.seqQ fun Q75 qn75 qx75 qr75 => ?_
        refine goc hn ?_
        refine bselF hlt13 ?_
        refine goe hn ?_
        refine qx75 _ _ _ ?_
        refine qx73 _ _ _ ?_
        refine qe72 _ _ ?_
        refine qn71 _ _ ?_
        obtain rfl := Option.some.inj h7
        refine EOk.done ?_
        exact ⟨⟨_, rfl⟩, [], trivial, ⟨trivial, trivial, rfl, rfl⟩⟩
      · obtain ⟨hx12, hd2, hlt13⟩ := restCons hd9
        replace h7 := (qcref1_SameCode_l1.eq_2 _ _ _ _ _).symm.trans h7
        refine COk.seqQ fun Q76 qn76 qx76 qr76 => ?_
        refine gor hn ?_
        refine qn76 _ _ ?_
        refine COk.seqQ fun Q77 qn77 qx77 qr77 => ?_
        refine goc hn ?_
        refine bselT hlt13 ?_
        refine gok hn ?_
        refine qn77 _ _ ?_
        refine COk.seqQ fun Q78 qn78 qx78 qr78 => ?_
        refine COk.blkQ fun Q84 qn84 qe84 qx84 qr84 => ?_
        refine COk.seqQ fun Q85 qn85 qx85 qr85 => ?_
        refine gor hn ?_
        refine qn85 _ _ ?_
        refine COk.seqQ fun Q86 qn86 qx86 qr86 => ?_
        refine god hn (by kernel_rfl) ?_
        refine idxK hx12 ?_
        obtain ⟨x14, hx15, h7⟩ := bindM h7
        refine idxM hx15 ?_
        refine qn86 _ _ ?_
        refine goc hn ?_
        refine bselM h7 (fun hb16 h7 => ?_) (fun hb16 h7 => ?_)
        · refine COk.seqQ fun Q87 qn87 qx87 qr87 => ?_
          refine gor hn ?_
          refine qn87 _ _ ?_
          refine got hn ?_
          refine qr84 _ _ ?_
          refine qr78 _ _ ?_
          refine qr73 _ _ ?_
          refine qr72 _ _ ?_
          refine qr71 _ _ ?_
          refine qr50 _ _ ?_
          obtain rfl := Option.some.inj h7
          obtain rfl := Option.some.inj h
          exact ⟨[], _, rfl, (by repeat (first | exact trivial | exact rfl | (refine And.intro ?_ ?_))), trivial, rfl, rfl, rfl, rfl, rfl⟩
        · refine gok hn ?_
          refine qn84 _ _ ?_
          refine qn78 _ _ ?_
          refine gor hn ?_
          refine Or.inl (And.intro (inrK hx12 hl4) ?_)
          refine qn73 _ _ ?_
          refine EOk.done ?_
          exact ⟨⟨(rest8, k5 + 1), hd2, h7⟩, [], by show rest8.length < rest8.length + 1; omega, ⟨⟨(by repeat (first | exact trivial | exact rfl | (refine And.intro ?_ ?_))), (by repeat (first | exact trivial | exact rfl | (refine And.intro ?_ ?_))), rfl, rfl, trivial⟩, trivial, rfl, rfl⟩⟩
    rintro ⟨⟨⟩, rfl⟩
    refine qn50 _ _ ?_
    refine COk.seqQ fun Q88 qn88 qx88 qr88 => ?_
    refine gor hn ?_
    refine qn88 _ _ ?_
    refine got hn ?_
    obtain rfl := Option.some.inj h
    exact ⟨[], _, rfl, (by repeat (first | exact trivial | exact rfl | (refine And.intro ?_ ?_))), trivial, rfl, rfl, rfl, rfl, rfl⟩

/- qcref5.SameFast -/
set_option maxRecDepth 100000 in
set_option maxHeartbeats 1000000 in
theorem qcref5_SameFast_ok (N : Nat) (a0 : Fs) (a1 : Fs) (r : Bool) (h : qcref5_SameFast N a0 a1 = some r) : Spec Try.prog 26 [] [.agg (eFs a0), .agg (eFs a1)] (.bool r) [] [] := by
  refine Spec.of tabOk Try.func26 rfl Try.ntmps26 (by kernel_rfl) rfl rfl rfl fun Γ hn => ?_
  unfold qcref5_SameFast at h
  refine COk.seqQ fun Q4 qn4 qx4 qr4 => ?_
  refine gor hn ?_
  refine qn4 _ _ ?_
  refine COk.seqQ fun Q5 qn5 qx5 qr5 => ?_
  obtain ⟨o3, h2, h⟩ := bindM h
  refine COk.joinR (ι := { s : Bool // o3 = s }) (fun s => [(4, .bool s.1)]) (fun s => []) (fun Q6 qn6 qx6 qr6 => ?_) (by intro s; rw [hn]; rfl) ?_
  · refine gor hn ?_
    refine bselM h2 (fun hb4 h2 => ?_) (fun hb4 h2 => ?_)
    · refine bselT hb4 ?_
      refine bselT hb4 ?_
      refine bselT hb4 ?_
      refine bselT hb4 ?_
      refine bselT hb4 ?_
      refine bselM h2 (fun hb5 h2 => ?_) (fun hb5 h2 => ?_)
      · refine bselT hb5 ?_
        refine bselT hb5 ?_
        refine bselT hb5 ?_
        refine bselT hb5 ?_
        refine bselT hb5 ?_
        refine bselM h2 (fun hb6 h2 => ?_) (fun hb6 h2 => ?_)
        · refine bselT hb6 ?_
          refine bselT hb6 ?_
          refine bselT hb6 ?_
          refine bselT hb6 ?_
          refine bselT hb6 ?_
          refine bselM h2 (fun hb7 h2 => ?_) (fun hb7 h2 => ?_)
          · refine bselT hb7 ?_
            refine bselT hb7 ?_
            refine bselT hb7 ?_
            refine bselT hb7 ?_
            obtain ⟨r8, hr9, h2⟩ := bindM h2
            show CallOk Try.prog _ _ _ _
            refine CallOk.as (qcref1_SameCode_ok N a0.code a1.code r8 hr9) (by repeat (first | exact trivial | exact rfl | (refine And.intro ?_ ?_))) trivial rfl ?_
            refine bselT hb7 ?_
            refine qn6 _ _ ?_
            obtain rfl := Option.some.inj h2
            refine EOk.done ?_
            exact ⟨⟨_, rfl⟩, [], trivial, ⟨⟨rfl, trivial⟩, trivial, rfl, rfl⟩⟩
          · refine bselF hb7 ?_
            refine bselF hb7 ?_
            refine bselF hb7 ?_
            refine bselF hb7 ?_
            refine bselF hb7 ?_
            refine qn6 _ _ ?_
            obtain rfl := Option.some.inj h2
            refine EOk.done ?_
            exact ⟨⟨_, rfl⟩, [], trivial, ⟨⟨rfl, trivial⟩, trivial, rfl, rfl⟩⟩
        · refine bselF hb6 ?_
          refine bselF hb6 ?_
          refine bselF hb6 ?_
          refine bselF hb6 ?_
          refine bselF hb6 ?_
          refine qn6 _ _ ?_
          obtain rfl := Option.some.inj h2
          refine EOk.done ?_
          exact ⟨⟨_, rfl⟩, [], trivial, ⟨⟨rfl, trivial⟩, trivial, rfl, rfl⟩⟩
      · refine bselF hb5 ?_
        refine bselF hb5 ?_
        refine bselF hb5 ?_
        refine bselF hb5 ?_
        refine bselF hb5 ?_
        refine qn6 _ _ ?_
        obtain rfl := Option.some.inj h2
        refine EOk.done ?_
        exact ⟨⟨_, rfl⟩, [], trivial, ⟨⟨rfl, trivial⟩, trivial, rfl, rfl⟩⟩
    · refine bselF hb4 ?_
      refine bselF hb4 ?_
      refine bselF hb4 ?_
      refine bselF hb4 ?_
      refine bselF hb4 ?_
      refine qn6 _ _ ?_
      obtain rfl := Option.some.inj h2
      refine EOk.done ?_
      exact ⟨⟨_, rfl⟩, [], trivial, ⟨⟨rfl, trivial⟩, trivial, rfl, rfl⟩⟩
  rintro ⟨v1, hv_⟩
  replace hv_ := hv_.symm
  subst hv_
  refine qn5 _ _ ?_
  refine got hn ?_
  obtain rfl := Option.some.inj h
  exact ⟨[], _, rfl, (by repeat (first | exact trivial | exact rfl | (refine And.intro ?_ ?_))), trivial, rfl, rfl, rfl, rfl, rfl⟩

/- qclaw11.small -/
set_option maxRecDepth 100000 in
set_option maxHeartbeats 1000000 in
theorem qclaw11_small_ok (N : Nat) (a0 : (List Tl)) (r : Bool) (h : qclaw11_small N a0 = some r) : Spec Try.prog 28 [] [.sl 4 (List.map eTl a0)] (.bool r) [] [] := by
  refine Spec.of tabOk Try.func28 rfl Try.ntmps28 (by kernel_rfl) rfl rfl rfl fun Γ hn => ?_
  unfold qclaw11_small at h
  refine COk.seqQ fun Q253 qn253 qx253 qr253 => ?_
  refine gor hn ?_
  refine qn253 _ _ ?_
  refine COk.seqQ fun Q254 qn254 qx254 qr254 => ?_
  refine COk.seqQ fun Q255 qn255 qx255 qr255 => ?_
  refine gor hn ?_
  refine lenM (fun hl1 => ?_)
  refine qn255 _ _ ?_
  obtain ⟨o3, h4, h⟩ := bindM h
  refine COk.joinR (ι := { s : Unit // o3 = Ctl.next s }) (fun s => []) (fun s => []) (fun Q399 qn399 qx399 qr399 => ?_) (by intro s; rw [hn]; rfl) ?_
  · refine COk.blkQ fun Q400 qn400 qe400 qx400 qr400 => ?_
    refine COk.loopQ (ι := { q : ((List Tl) × Nat) // q.1 = a0.drop q.2 ∧ qclaw11_small_l1 N q.1 q.2 = some o3 }) (fun q => [(7, .sl 4 (List.map eTl a0)), (8, .int (a0.length : Int)), (9, .int (q.1.2 : Int))]) (fun q => []) (fun q => q.1.1.length) ⟨(a0, 0), rfl, h4⟩ [] ⟨⟨(by repeat (first | exact trivial | exact rfl | (refine And.intro ?_ ?_))), rfl, rfl, trivial⟩, trivial, rfl, rfl⟩ (by intro q; rw [hn]; rfl) ?_
    rintro ⟨⟨rest_, k2⟩, hd6, h4⟩ Q401 qn401 qx401 qr401
    replace hd6 : rest_ = a0.drop k2 := hd6
    rcases rest_ with _ | ⟨x8, rest5⟩
    · have hlt10 := restNil hd6
      replace h4 := (qclaw11_small_l1.eq_1 _ _).symm.trans h4
      refine COk.seqQ fun Q402 qn402 qx402 qr402 => ?_
      refine gor hn ?_
      refine qn402 _ _ ?_
      refine COk.seqQ fun Q403 qn403 qx403 qr403 => ?_
      refine goc hn ?_
      refine bselF hlt10 ?_
      refine goe hn ?_
      refine qx403 _ _ _ ?_
      refine qx401 _ _ _ ?_
      refine qe400 _ _ ?_
      refine qn399 _ _ ?_
      obtain rfl := Option.some.inj h4
      refine EOk.done ?_
      exact ⟨⟨_, rfl⟩, [], trivial, ⟨trivial, trivial, rfl, rfl⟩⟩
    · obtain ⟨hx9, hd2, hlt10⟩ := restCons hd6
      replace h4 := (qclaw11_small_l1.eq_2 _ _ _ _).symm.trans h4
      refine COk.seqQ fun Q404 qn404 qx404 qr404 => ?_
      refine gor hn ?_
      refine qn404 _ _ ?_
      refine COk.seqQ fun Q405 qn405 qx405 qr405 => ?_
      refine goc hn ?_
      refine bselT hlt10 ?_
      refine gok hn ?_
      refine qn405 _ _ ?_
      refine COk.seqQ fun Q406 qn406 qx406 qr406 => ?_
      refine COk.blkQ fun Q464 qn464 qe464 qx464 qr464 => ?_
      refine COk.seqQ fun Q465 qn465 qx465 qr465 => ?_
      refine gor hn ?_
      refine idxK hx9 ?_
      refine qn465 _ _ ?_
      refine COk.seqQ fun Q466 qn466 qx466 qr466 => ?_
      refine gor hn ?_
      refine lenM (fun hl11 => ?_)
      refine qn466 _ _ ?_
      obtain ⟨o13, h14, h4⟩ := bindM h4
      refine COk.joinR (ι := { s : Unit // o13 = Ctl.next s }) (fun s => [(7, .sl 4 (List.map eTl a0)), (8, .int (a0.length : Int)), (9, .int (k2 : Int))]) (fun s => []) (fun Q491 qn491 qx491 qr491 => ?_) (by intro s; rw [hn]; rfl) ?_
      · refine COk.blkQ fun Q492 qn492 qe492 qx492 qr492 => ?_
        refine COk.loopQ (ι := { q : ((List Ln) × Nat) // q.1 = x8.classes.drop q.2 ∧ qclaw11_small_l2 N q.1 q.2 = some o13 }) (fun q => [(7, .sl 4 (List.map eTl a0)), (8, .int (a0.length : Int)), (9, .int (k2 : Int)), (14, .sl 2 (List.map eLn x8.classes)), (15, .int (x8.classes.length : Int)), (16, .int (q.1.2 : Int))]) (fun q => []) (fun q => q.1.1.length) ⟨(x8.classes, 0), rfl, h14⟩ [] ⟨⟨(by repeat (first | exact trivial | exact rfl | (refine And.intro ?_ ?_))), rfl, rfl, (by repeat (first | exact trivial | exact rfl | (refine And.intro ?_ ?_))), rfl, rfl, trivial⟩, trivial, rfl, rfl⟩ (by intro q; rw [hn]; rfl) ?_
        rintro ⟨⟨rest_, k12⟩, hd16, h14⟩ Q493 qn493 qx493 qr493
        replace hd16 : rest_ = x8.classes.drop k12 := hd16
        rcases rest_ with _ | ⟨x18, rest15⟩
        · have hlt20 := restNil hd16
          replace h14 := (qclaw11_small_l2.eq_1 _ _).symm.trans h14
          refine COk.seqQ fun Q494 qn494 qx494 qr494 => ?_
          refine gor hn ?_
          refine qn494 _ _ ?_
          refine COk.seqQ fun Q495 qn495 qx495 qr495 => ?_
          refine goc hn ?_
          refine bselF hlt20 ?_
          refine goe hn ?_
          refine qx495 _ _ _ ?_
          refine qx493 _ _ _ ?_
          refine qe492 _ _ ?_
          refine qn491 _ _ ?_
          obtain rfl := Option.some.inj h14
          refine EOk.done ?_
          exact ⟨⟨_, rfl⟩, [], trivial, ⟨⟨(by repeat (first | exact trivial | exact rfl | (refine And.intro ?_ ?_))), rfl, rfl, trivial⟩, trivial, rfl, rfl⟩⟩
        · obtain ⟨hx19, hd2, hlt20⟩ := restCons hd16
          replace h14 := (qclaw11_small_l2.eq_2 _ _ _ _).symm.trans h14
          refine COk.seqQ fun Q496 qn496 qx496 qr496 => ?_
          refine gor hn ?_
          refine qn496 _ _ ?_
          refine COk.seqQ fun Q497 qn497 qx497 qr497 => ?_
          refine goc hn ?_
          refine bselT hlt20 ?_
          refine gok hn ?_
          refine qn497 _ _ ?_
          refine COk.seqQ fun Q498 qn498 qx498 qr498 => ?_
          refine COk.blkQ fun Q499 qn499 qe499 qx499 qr499 => ?_
          refine COk.seqQ fun Q500 qn500 qx500 qr500 => ?_
          refine gor hn ?_
          refine idxK hx19 ?_
          refine qn500 _ _ ?_
          refine COk.seqQ fun Q501 qn501 qx501 qr501 => ?_
          obtain ⟨o23, h22, h14⟩ := bindM h14
          refine COk.joinR (ι := { s : Bool // o23 = s }) (fun s => [(7, .sl 4 (List.map eTl a0)), (8, .int (a0.length : Int)), (9, .int (k2 : Int)), (14, .sl 2 (List.map eLn x8.classes)), (15, .int (x8.classes.length : Int)), (16, .int (k12 : Int)), (27, .bool s.1)]) (fun s => []) (fun Q502 qn502 qx502 qr502 => ?_) (by intro s; rw [hn]; rfl) ?_
          · refine gor hn ?_
            refine bselM h22 (fun hb24 h22 => ?_) (fun hb24 h22 => ?_)
            · refine bselT hb24 ?_
              refine bselT hb24 ?_
              refine bselT hb24 ?_
              refine qn502 _ _ ?_
              obtain rfl := Option.some.inj h22
              refine EOk.done ?_
              exact ⟨⟨_, rfl⟩, [], trivial, ⟨⟨(by repeat (first | exact trivial | exact rfl | (refine And.intro ?_ ?_))), rfl, rfl, (by repeat (first | exact trivial | exact rfl | (refine And.intro ?_ ?_))), rfl, rfl, rfl, trivial⟩, trivial, rfl, rfl⟩⟩
            · refine bselF hb24 ?_
              refine bselF hb24 ?_
              refine bselF hb24 ?_
              refine qn502 _ _ ?_
              obtain rfl := Option.some.inj h22
              refine EOk.done ?_
              exact ⟨⟨_, rfl⟩, [], trivial, ⟨⟨(by repeat (first | exact trivial | exact rfl | (refine And.intro ?_ ?_))), rfl, rfl, (by repeat (first | exact trivial | exact rfl | (refine And.intro ?_ ?_))), rfl, rfl, rfl, trivial⟩, trivial, rfl, rfl⟩⟩
          rintro ⟨v21, hv_⟩
          replace hv_ := hv_.symm
          subst hv_
          refine qn501 _ _ ?_
          refine goc hn ?_
          refine bselM h14 (fun hb25 h14 => ?_) (fun hb25 h14 => ?_)
          · refine COk.seqQ fun Q503 qn503 qx503 qr503 => ?_
            refine gor hn ?_
            refine qn503 _ _ ?_
            refine got hn ?_
            refine qr499 _ _ ?_
            refine qr498 _ _ ?_
            refine qr493 _ _ ?_
            refine qr492 _ _ ?_
            refine qr491 _ _ ?_
            refine qr464 _ _ ?_
            refine qr406 _ _ ?_
            refine qr401 _ _ ?_
            refine qr400 _ _ ?_
            refine qr399 _ _ ?_
            refine qr254 _ _ ?_
            obtain rfl := Option.some.inj h14
            obtain rfl := Option.some.inj h4
            obtain rfl := Option.some.inj h
            exact ⟨[], _, rfl, (by repeat (first | exact trivial | exact rfl | (refine And.intro ?_ ?_))), trivial, rfl, rfl, rfl, rfl, rfl⟩
          · refine gok hn ?_
            refine qn499 _ _ ?_
            refine qn498 _ _ ?_
            refine gor hn ?_
            refine Or.inl (And.intro (inrK hx19 hl11) ?_)
            refine qn493 _ _ ?_
            refine EOk.done ?_
            exact ⟨⟨(rest15, k12 + 1), hd2, h14⟩, [], by show rest15.length < rest15.length + 1; omega, ⟨⟨(by repeat (first | exact trivial | exact rfl | (refine And.intro ?_ ?_))), rfl, rfl, (by repeat (first | exact trivial | exact rfl | (refine And.intro ?_ ?_))), rfl, rfl, trivial⟩, trivial, rfl, rfl⟩⟩
      rintro ⟨⟨⟩, rfl⟩
      refine qn464 _ _ ?_
      refine qn406 _ _ ?_
      refine gor hn ?_
      refine Or.inl (And.intro (inrK hx9 hl1) ?_)
      refine qn401 _ _ ?_
      refine EOk.done ?_
      exact ⟨⟨(rest5, k2 + 1), hd2, h4⟩, [], by show rest5.length < rest5.length + 1; omega, ⟨⟨(by repeat (first | exact trivial | exact rfl | (refine And.intro ?_ ?_))), rfl, rfl, trivial⟩, trivial, rfl, rfl⟩⟩
  rintro ⟨⟨⟩, rfl⟩
  refine qn254 _ _ ?_
  refine COk.seqQ fun Q504 qn504 qx504 qr504 => ?_
  refine gor hn ?_
  refine qn504 _ _ ?_
  refine got hn ?_
  obtain rfl := Option.some.inj h
  exact ⟨[], _, rfl, (by repeat (first | exact trivial | exact rfl | (refine And.intro ?_ ?_))), trivial, rfl, rfl, rfl, rfl, rfl⟩

/- tally.Most -/
set_option maxRecDepth 100000 in
set_option maxHeartbeats 1000000 in
theorem tally_Most_ok (N : Nat) (a0 : (List Tl)) (a1 : St) (r : (Int × Int)) (h : tally_Most N a0 a1 = some r) : Spec Try.prog 93 [] [.sl 4 (List.map eTl a0), .agg (eSt a1)] (.tup [.int r.1, .int r.2]) [] [] := by
  refine Spec.of tabOk Try.func93 rfl Try.ntmps93 (by kernel_rfl) rfl rfl rfl fun Γ hn => ?_
  unfold tally_Most at h
  refine COk.seqQ fun Q523 qn523 qx523 qr523 => ?_
  refine gor hn ?_
  refine qn523 _ _ ?_
  refine COk.seqQ fun Q524 qn524 qx524 qr524 => ?_
  refine gor hn ?_
  refine qn524 _ _ ?_
  refine COk.seqQ fun Q525 qn525 qx525 qr525 => ?_
  refine COk.seqQ fun Q526 qn526 qx526 qr526 => ?_
  refine gor hn ?_
  refine lenM (fun hl1 => ?_)
  refine qn526 _ _ ?_
  obtain ⟨o9, h10, h⟩ := bindM h
  refine COk.joinR (ι := { s : (Int × Int) // o9 = s }) (fun s => [(6, .int s.1.1), (7, .int s.1.2)]) (fun s => []) (fun Q911 qn911 qx911 qr911 => ?_) (by intro s; rw [hn]; rfl) ?_
  · refine COk.blkQ fun Q912 qn912 qe912 qx912 qr912 => ?_
    refine COk.loopQ (ι := { q : ((List Tl) × Nat × Int × Int) // q.1 = a0.drop q.2.1 ∧ tally_Most_l1 N a1 q.1 q.2.1 q.2.2.1 q.2.2.2 = some o9 }) (fun q => [(3, .ptr 3 0), (6, .int q.1.2.2.1), (7, .int q.1.2.2.2), (12, .sl 4 (List.map eTl a0)), (13, .int (a0.length : Int)), (14, .int (q.1.2.1 : Int))]) (fun q => [(3, .box (eSt a1) 28)]) (fun q => q.1.1.length) ⟨(a0, 0, (-1 : Int), (0 : Int)), rfl, h10⟩ [] ⟨⟨rfl, rfl, rfl, (by repeat (first | exact trivial | exact rfl | (refine And.intro ?_ ?_))), rfl, rfl, trivial⟩, ⟨rfl, trivial⟩, rfl, rfl⟩ (by intro q; rw [hn]; rfl) ?_
    rintro ⟨⟨rest_, k2, v3, v4⟩, hd12, h10⟩ Q913 qn913 qx913 qr913
    replace hd12 : rest_ = a0.drop k2 := hd12
    rcases rest_ with _ | ⟨x14, rest11⟩
    · have hlt16 := restNil hd12
      replace h10 := (tally_Most_l1.eq_1 _ _ _ _ _).symm.trans h10
      refine COk.seqQ fun Q914 qn914 qx914 qr914 => ?_
      refine gor hn ?_
      refine qn914 _ _ ?_
      refine COk.seqQ fun Q915 qn915 qx915 qr915 => ?_
      refine goc hn ?_
      refine bselF hlt16 ?_
      refine goe hn ?_
      refine qx915 _ _ _ ?_
      refine qx913 _ _ _ ?_
      refine qe912 _ _ ?_
      refine qn911 _ _ ?_
      obtain rfl := Option.some.inj h10
      refine EOk.done ?_
      exact ⟨⟨_, rfl⟩, [], trivial, ⟨⟨rfl, rfl, trivial⟩, trivial, rfl, rfl⟩⟩
    · obtain ⟨hx15, hd2, hlt16⟩ := restCons hd12
      replace h10 := (tally_Most_l1.eq_2 _ _ _ _ _ _ _).symm.trans h10
      refine COk.seqQ fun Q916 qn916 qx916 qr916 => ?_
      refine gor hn ?_
      refine qn916 _ _ ?_
      refine COk.seqQ fun Q917 qn917 qx917 qr917 => ?_
      refine goc hn ?_
      refine bselT hlt16 ?_
      refine gok hn ?_
      refine qn917 _ _ ?_
      refine COk.seqQ fun Q918 qn918 qx918 qr918 => ?_
      obtain ⟨o20, h19, h10⟩ := bindM h10
      refine COk.joinR (ι := { s : (Int × Int) // o20 = s }) (fun s => [(3, .ptr 3 0), (6, .int s.1.1), (7, .int s.1.2), (12, .sl 4 (List.map eTl a0)), (13, .int (a0.length : Int)), (14, .int (k2 : Int))]) (fun s => [(3, .box (eSt a1) 28)]) (fun Q981 qn981 qx981 qr981 => ?_) (by intro s; rw [hn]; rfl) ?_
      · refine COk.blkQ fun Q982 qn982 qe982 qx982 qr982 => ?_
        refine COk.seqQ fun Q983 qn983 qx983 qr983 => ?_
        refine gor hn ?_
        refine idxK hx15 ?_
        refine qn983 _ _ ?_
        refine COk.seqQ fun Q984 qn984 qx984 qr984 => ?_
        refine COk.seqQ fun Q985 qn985 qx985 qr985 => ?_
        refine gor hn ?_
        refine qn985 _ _ ?_
        refine goc hn ?_
        refine bselM h19 (fun hb21 h19 => ?_) (fun hb21 h19 => ?_)
        · refine goe hn ?_
          refine qx984 _ _ _ ?_
          refine qe982 _ _ ?_
          refine qn981 _ _ ?_
          obtain rfl := Option.some.inj h19
          refine EOk.done ?_
          exact ⟨⟨_, rfl⟩, [], trivial, ⟨⟨rfl, rfl, rfl, (by repeat (first | exact trivial | exact rfl | (refine And.intro ?_ ?_))), rfl, rfl, trivial⟩, ⟨rfl, trivial⟩, rfl, rfl⟩⟩
        · refine gok hn ?_
          refine qn984 _ _ ?_
          refine COk.seqQ fun Q986 qn986 qx986 qr986 => ?_
          refine gor hn ?_
          refine lenM (fun hl22 => ?_)
          refine qn986 _ _ ?_
          obtain ⟨o30, h31, h19⟩ := bindM h19
          refine COk.joinR (ι := { s : (Int × Int) // o30 = s }) (fun s => [(3, .ptr 3 0), (6, .int s.1.1), (7, .int s.1.2), (12, .sl 4 (List.map eTl a0)), (13, .int (a0.length : Int)), (14, .int (k2 : Int))]) (fun s => [(3, .box (eSt a1) 28)]) (fun Q1026 qn1026 qx1026 qr1026 => ?_) (by intro s; rw [hn]; rfl) ?_
          · refine COk.blkQ fun Q1027 qn1027 qe1027 qx1027 qr1027 => ?_
            refine COk.loopQ (ι := { q : ((List Ln) × Nat × Int × Int) // q.1 = x14.classes.drop q.2.1 ∧ tally_Most_l2 N q.1 q.2.1 q.2.2.1 q.2.2.2 = some o30 }) (fun q => [(3, .ptr 3 0), (6, .int q.1.2.2.1), (7, .int q.1.2.2.2), (12, .sl 4 (List.map eTl a0)), (13, .int (a0.length : Int)), (14, .int (k2 : Int)), (23, .sl 2 (List.map eLn x14.classes)), (24, .int (x14.classes.length : Int)), (25, .int (q.1.2.1 : Int))]) (fun q => [(3, .box (eSt a1) 28)]) (fun q => q.1.1.length) ⟨(x14.classes, 0, v3, v4), rfl, h31⟩ [] ⟨⟨rfl, rfl, rfl, (by repeat (first | exact trivial | exact rfl | (refine And.intro ?_ ?_))), rfl, rfl, (by repeat (first | exact trivial | exact rfl | (refine And.intro ?_ ?_))), rfl, rfl, trivial⟩, ⟨rfl, trivial⟩, rfl, rfl⟩ (by intro q; rw [hn]; rfl) ?_
            rintro ⟨⟨rest_, k23, v24, v25⟩, hd33, h31⟩ Q1028 qn1028 qx1028 qr1028
            replace hd33 : rest_ = x14.classes.drop k23 := hd33
            rcases rest_ with _ | ⟨x35, rest32⟩
            · have hlt37 := restNil hd33
              replace h31 := (tally_Most_l2.eq_1 _ _ _ _).symm.trans h31
              refine COk.seqQ fun Q1029 qn1029 qx1029 qr1029 => ?_
              refine gor hn ?_
              refine qn1029 _ _ ?_
              refine COk.seqQ fun Q1030 qn1030 qx1030 qr1030 => ?_
              refine goc hn ?_
              refine bselF hlt37 ?_
              refine goe hn ?_
              refine qx1030 _ _ _ ?_
              refine qx1028 _ _ _ ?_
              refine qe1027 _ _ ?_
              refine qn1026 _ _ ?_
              obtain rfl := Option.some.inj h31
              refine EOk.done ?_
              exact ⟨⟨_, rfl⟩, [], trivial, ⟨⟨rfl, rfl, rfl, (by repeat (first | exact trivial | exact rfl | (refine And.intro ?_ ?_))), rfl, rfl, trivial⟩, ⟨rfl, trivial⟩, rfl, rfl⟩⟩
            · obtain ⟨hx36, hd2, hlt37⟩ := restCons hd33
              replace h31 := (tally_Most_l2.eq_2 _ _ _ _ _ _).symm.trans h31
              refine COk.seqQ fun Q1031 qn1031 qx1031 qr1031 => ?_
              refine gor hn ?_
              refine qn1031 _ _ ?_
              refine COk.seqQ fun Q1032 qn1032 qx1032 qr1032 => ?_
              refine goc hn ?_
              refine bselT hlt37 ?_
              refine gok hn ?_
              refine qn1032 _ _ ?_
              refine COk.seqQ fun Q1033 qn1033 qx1033 qr1033 => ?_
              refine COk.blkQ fun Q1039 qn1039 qe1039 qx1039 qr1039 => ?_
              refine COk.seqQ fun Q1040 qn1040 qx1040 qr1040 => ?_
              refine gor hn ?_
              refine idxK hx36 ?_
              refine qn1040 _ _ ?_
              refine COk.seqQ fun Q1041 qn1041 qx1041 qr1041 => ?_
              obtain ⟨o40, h39, h31⟩ := bindM h31
              refine COk.joinR (ι := { s : Bool // o40 = s }) (fun s => [(3, .ptr 3 0), (6, .int v24), (7, .int v25), (11, .ptr 11 0), (12, .sl 4 (List.map eTl a0)), (13, .int (a0.length : Int)), (14, .int (k2 : Int)), (23, .sl 2 (List.map eLn x14.classes)), (24, .int (x14.classes.length : Int)), (25, .int (k23 : Int)), (48, .bool s.1)]) (fun s => [(3, .box (eSt a1) 28), (11, .box (eLn x35) 86)]) (fun Q1042 qn1042 qx1042 qr1042 => ?_) (by intro s; rw [hn]; rfl) ?_
              · refine gor hn ?_
                refine bselM h39 (fun hb41 h39 => ?_) (fun hb41 h39 => ?_)
                · refine bselT hb41 ?_
                  refine bselT hb41 ?_
                  refine bselT hb41 ?_
                  refine bselT hb41 ?_
                  refine bselT hb41 ?_
                  refine bselT hb41 ?_
                  refine bselT hb41 ?_
                  refine bselT hb41 ?_
                  refine qn1042 _ _ ?_
                  obtain rfl := Option.some.inj h39
                  refine EOk.done ?_
                  exact ⟨⟨_, rfl⟩, [], trivial, ⟨⟨rfl, rfl, rfl, rfl, (by repeat (first | exact trivial | exact rfl | (refine And.intro ?_ ?_))), rfl, rfl, (by repeat (first | exact trivial | exact rfl | (refine And.intro ?_ ?_))), rfl, rfl, rfl, trivial⟩, ⟨rfl, rfl, trivial⟩, rfl, rfl⟩⟩
                · refine bselF hb41 ?_
                  refine bselF hb41 ?_
                  refine bselF hb41 ?_
                  refine bselF hb41 ?_
                  refine bselM h39 (fun hb42 h39 => ?_) (fun hb42 h39 => ?_)
                  · refine bselT hb42 ?_
                    refine bselF hb41 ?_
                    refine bselT hb42 ?_
                    refine bselF hb41 ?_
                    refine bselM h39 (fun hb43 h39 => ?_) (fun hb43 h39 => ?_)
                    · refine bselT hb43 ?_
                      refine bselT hb43 ?_
                      refine bselT hb43 ?_
                      refine bselF hb41 ?_
                      refine bselT hb43 ?_
                      refine bselF hb41 ?_
                      refine qn1042 _ _ ?_
                      obtain rfl := Option.some.inj h39
                      refine EOk.done ?_
                      exact ⟨⟨_, rfl⟩, [], trivial, ⟨⟨rfl, rfl, rfl, rfl, (by repeat (first | exact trivial | exact rfl | (refine And.intro ?_ ?_))), rfl, rfl, (by repeat (first | exact trivial | exact rfl | (refine And.intro ?_ ?_))), rfl, rfl, rfl, trivial⟩, ⟨rfl, rfl, trivial⟩, rfl, rfl⟩⟩
                    · refine bselF hb43 ?_
                      refine bselF hb43 ?_
                      refine bselF hb43 ?_
                      refine bselF hb41 ?_
                      refine bselF hb43 ?_
                      refine bselF hb41 ?_
                      refine qn1042 _ _ ?_
                      obtain rfl := Option.some.inj h39
                      refine EOk.done ?_
                      exact ⟨⟨_, rfl⟩, [], trivial, ⟨⟨rfl, rfl, rfl, rfl, (by repeat (first | exact trivial | exact rfl | (refine And.intro ?_ ?_))), rfl, rfl, (by repeat (first | exact trivial | exact rfl | (refine And.intro ?_ ?_))), rfl, rfl, rfl, trivial⟩, ⟨rfl, rfl, trivial⟩, rfl, rfl⟩⟩
                  · refine bselF hb42 ?_
                    refine bselF hb41 ?_
                    refine bselF hb42 ?_
                    refine bselF hb41 ?_
                    refine bselF hb41 ?_
                    refine bselF hb41 ?_
                    refine qn1042 _ _ ?_
                    obtain rfl := Option.some.inj h39
                    refine EOk.done ?_
                    exact ⟨⟨_, rfl⟩, [], trivial, ⟨⟨rfl, rfl, rfl, rfl, (by repeat (first | exact trivial | exact rfl | (refine And.intro ?_ ?_))), rfl, rfl, (by repeat (first | exact trivial | exact rfl | (refine And.intro ?_ ?_))), rfl, rfl, rfl, trivial⟩, ⟨rfl, rfl, trivial⟩, rfl, rfl⟩⟩
              rintro ⟨v38, hv_⟩
              replace hv_ := hv_.symm
              subst hv_
              refine qn1041 _ _ ?_
              obtain ⟨o47, h46, h31⟩ := bindM h31
              refine COk.joinR (ι := { s : (Int × Int) // o47 = s }) (fun s => [(3, .ptr 3 0), (6, .int s.1.1), (7, .int s.1.2), (12, .sl 4 (List.map eTl a0)), (13, .int (a0.length : Int)), (14, .int (k2 : Int)), (23, .sl 2 (List.map eLn x14.classes)), (24, .int (x14.classes.length : Int)), (25, .int (k23 : Int))]) (fun s => [(3, .box (eSt a1) 28)]) (fun Q1043 qn1043 qx1043 qr1043 => ?_) (by intro s; rw [hn]; rfl) ?_
              · refine goc hn ?_
                refine bselM h46 (fun hb48 h46 => ?_) (fun hb48 h46 => ?_)
                · refine god hn (by kernel_rfl) ?_
                  refine qn1043 _ _ ?_
                  obtain rfl := Option.some.inj h46
                  refine EOk.done ?_
                  exact ⟨⟨_, rfl⟩, [], trivial, ⟨⟨rfl, rfl, rfl, (by repeat (first | exact trivial | exact rfl | (refine And.intro ?_ ?_))), rfl, rfl, (by repeat (first | exact trivial | exact rfl | (refine And.intro ?_ ?_))), rfl, rfl, trivial⟩, ⟨rfl, trivial⟩, rfl, rfl⟩⟩
                · refine gok hn ?_
                  refine qn1043 _ _ ?_
                  obtain rfl := Option.some.inj h46
                  refine EOk.done ?_
                  exact ⟨⟨_, rfl⟩, [], trivial, ⟨⟨rfl, rfl, rfl, (by repeat (first | exact trivial | exact rfl | (refine And.intro ?_ ?_))), rfl, rfl, (by repeat (first | exact trivial | exact rfl | (refine And.intro ?_ ?_))), rfl, rfl, trivial⟩, ⟨rfl, trivial⟩, rfl, rfl⟩⟩
              rintro ⟨⟨v44, v45⟩, rfl⟩
              refine qn1039 _ _ ?_
              refine qn1033 _ _ ?_
              refine gor hn ?_
              refine Or.inl (And.intro (inrK hx36 hl22) ?_)
              refine qn1028 _ _ ?_
              refine EOk.done ?_
              exact ⟨⟨(rest32, k23 + 1, v44, v45), hd2, h31⟩, [], by show rest32.length < rest32.length + 1; omega, ⟨⟨rfl, rfl, rfl, (by repeat (first | exact trivial | exact rfl | (refine And.intro ?_ ?_))), rfl, rfl, (by repeat (first | exact trivial | exact rfl | (refine And.intro ?_ ?_))), rfl, rfl, trivial⟩, ⟨rfl, trivial⟩, rfl, rfl⟩⟩
          rintro ⟨⟨v28, v29⟩, rfl⟩
          refine qn982 _ _ ?_
          refine qn981 _ _ ?_
          obtain rfl := Option.some.inj h19
          refine EOk.done ?_
          exact ⟨⟨_, rfl⟩, [], trivial, ⟨⟨rfl, rfl, rfl, (by repeat (first | exact trivial | exact rfl | (refine And.intro ?_ ?_))), rfl, rfl, trivial⟩, ⟨rfl, trivial⟩, rfl, rfl⟩⟩
      rintro ⟨⟨v17, v18⟩, rfl⟩
      refine qn918 _ _ ?_
      refine gor hn ?_
      refine Or.inl (And.intro (inrK hx15 hl1) ?_)
      refine qn913 _ _ ?_
      refine EOk.done ?_
      exact ⟨⟨(rest11, k2 + 1, v17, v18), hd2, h10⟩, [], by show rest11.length < rest11.length + 1; omega, ⟨⟨rfl, rfl, rfl, (by repeat (first | exact trivial | exact rfl | (refine And.intro ?_ ?_))), rfl, rfl, trivial⟩, ⟨rfl, trivial⟩, rfl, rfl⟩⟩
  rintro ⟨⟨v7, v8⟩, rfl⟩
  refine qn525 _ _ ?_
  refine COk.seqQ fun Q1044 qn1044 qx1044 qr1044 => ?_
  refine gor hn ?_
  refine qn1044 _ _ ?_
  refine got hn ?_
  obtain rfl := Option.some.inj h
  exact ⟨[], _, rfl, (by repeat (first | exact trivial | exact rfl | (refine And.intro ?_ ?_))), trivial, rfl, rfl, rfl, rfl, rfl⟩

/- tally.All -/
set_option maxRecDepth 100000 in
set_option maxHeartbeats 1000000 in
theorem tally_All_ok (N : Nat) (a0 : (List Tl)) (a1 : St) (r : Int) (h : tally_All N a0 a1 = some r) : Spec Try.prog 94 [] [.sl 4 (List.map eTl a0), .agg (eSt a1)] (.int r) [] [] := by
  refine Spec.of tabOk Try.func94 rfl Try.ntmps94 (by kernel_rfl) rfl rfl rfl fun Γ hn => ?_
  unfold tally_All at h
  refine COk.seqQ fun Q331 qn331 qx331 qr331 => ?_
  refine gor hn ?_
  refine qn331 _ _ ?_
  refine COk.seqQ fun Q332 qn332 qx332 qr332 => ?_
  refine gor hn ?_
  refine qn332 _ _ ?_
  refine COk.seqQ fun Q333 qn333 qx333 qr333 => ?_
  refine COk.seqQ fun Q334 qn334 qx334 qr334 => ?_
  refine gor hn ?_
  refine lenM (fun hl1 => ?_)
  refine qn334 _ _ ?_
  obtain ⟨o6, h7, h⟩ := bindM h
  refine COk.joinR (ι := { s : Int // o6 = s }) (fun s => [(5, .int s.1)]) (fun s => []) (fun Q575 qn575 qx575 qr575 => ?_) (by intro s; rw [hn]; rfl) ?_
  · refine COk.blkQ fun Q576 qn576 qe576 qx576 qr576 => ?_
    refine COk.loopQ (ι := { q : ((List Tl) × Nat × Int) // q.1 = a0.drop q.2.1 ∧ tally_All_l1 N a1 q.1 q.2.1 q.2.2 = some o6 }) (fun q => [(3, .ptr 3 0), (5, .int q.1.2.2), (10, .sl 4 (List.map eTl a0)), (11, .int (a0.length : Int)), (12, .int (q.1.2.1 : Int))]) (fun q => [(3, .box (eSt a1) 28)]) (fun q => q.1.1.length) ⟨(a0, 0, (0 : Int)), rfl, h7⟩ [] ⟨⟨rfl, rfl, (by repeat (first | exact trivial | exact rfl | (refine And.intro ?_ ?_))), rfl, rfl, trivial⟩, ⟨rfl, trivial⟩, rfl, rfl⟩ (by intro q; rw [hn]; rfl) ?_
    rintro ⟨⟨rest_, k2, v3⟩, hd9, h7⟩ Q577 qn577 qx577 qr577
    replace hd9 : rest_ = a0.drop k2 := hd9
    rcases rest_ with _ | ⟨x11, rest8⟩
    · have hlt13 := restNil hd9
      replace h7 := (tally_All_l1.eq_1 _ _ _ _).symm.trans h7
      refine COk.seqQ fun Q578 qn578 qx578 qr578 => ?_
      refine gor hn ?_
      refine qn578 _ _ ?_
      refine COk.seqQ fun Q579 qn579 qx579 qr579 => ?_
      refine goc hn ?_
      refine bselF hlt13 ?_
      refine goe hn ?_
      refine qx579 _ _ _ ?_
      refine qx577 _ _ _ ?_
      refine qe576 _ _ ?_
      refine qn575 _ _ ?_
      obtain rfl := Option.some.inj h7
      refine EOk.done ?_
      exact ⟨⟨_, rfl⟩, [], trivial, ⟨⟨rfl, trivial⟩, trivial, rfl, rfl⟩⟩
    · obtain ⟨hx12, hd2, hlt13⟩ := restCons hd9
      replace h7 := (tally_All_l1.eq_2 _ _ _ _ _ _).symm.trans h7
      refine COk.seqQ fun Q580 qn580 qx580 qr580 => ?_
      refine gor hn ?_
      refine qn580 _ _ ?_
      refine COk.seqQ fun Q581 qn581 qx581 qr581 => ?_
      refine goc hn ?_
      refine bselT hlt13 ?_
      refine gok hn ?_
      refine qn581 _ _ ?_
      refine COk.seqQ fun Q582 qn582 qx582 qr582 => ?_
      obtain ⟨o16, h15, h7⟩ := bindM h7
      refine COk.joinR (ι := { s : Int // o16 = s }) (fun s => [(3, .ptr 3 0), (5, .int s.1), (10, .sl 4 (List.map eTl a0)), (11, .int (a0.length : Int)), (12, .int (k2 : Int))]) (fun s => [(3, .box (eSt a1) 28)]) (fun Q621 qn621 qx621 qr621 => ?_) (by intro s; rw [hn]; rfl) ?_
      · refine COk.blkQ fun Q622 qn622 qe622 qx622 qr622 => ?_
        refine COk.seqQ fun Q623 qn623 qx623 qr623 => ?_
        refine gor hn ?_
        refine idxK hx12 ?_
        refine qn623 _ _ ?_
        refine COk.seqQ fun Q624 qn624 qx624 qr624 => ?_
        refine COk.seqQ fun Q625 qn625 qx625 qr625 => ?_
        refine gor hn ?_
        refine qn625 _ _ ?_
        refine goc hn ?_
        refine bselM h15 (fun hb17 h15 => ?_) (fun hb17 h15 => ?_)
        · refine goe hn ?_
          refine qx624 _ _ _ ?_
          refine qe622 _ _ ?_
          refine qn621 _ _ ?_
          obtain rfl := Option.some.inj h15
          refine EOk.done ?_
          exact ⟨⟨_, rfl⟩, [], trivial, ⟨⟨rfl, rfl, (by repeat (first | exact trivial | exact rfl | (refine And.intro ?_ ?_))), rfl, rfl, trivial⟩, ⟨rfl, trivial⟩, rfl, rfl⟩⟩
        · refine gok hn ?_
          refine qn624 _ _ ?_
          refine COk.seqQ fun Q626 qn626 qx626 qr626 => ?_
          refine gor hn ?_
          refine lenM (fun hl18 => ?_)
          refine qn626 _ _ ?_
          obtain ⟨o23, h24, h15⟩ := bindM h15
          refine COk.joinR (ι := { s : Int // o23 = s }) (fun s => [(3, .ptr 3 0), (5, .int s.1), (10, .sl 4 (List.map eTl a0)), (11, .int (a0.length : Int)), (12, .int (k2 : Int))]) (fun s => [(3, .box (eSt a1) 28)]) (fun Q648 qn648 qx648 qr648 => ?_) (by intro s; rw [hn]; rfl) ?_
          · refine COk.blkQ fun Q649 qn649 qe649 qx649 qr649 => ?_
            refine COk.loopQ (ι := { q : ((List Ln) × Nat × Int) // q.1 = x11.classes.drop q.2.1 ∧ tally_All_l2 N q.1 q.2.1 q.2.2 = some o23 }) (fun q => [(3, .ptr 3 0), (5, .int q.1.2.2), (10, .sl 4 (List.map eTl a0)), (11, .int (a0.length : Int)), (12, .int (k2 : Int)), (21, .sl 2 (List.map eLn x11.classes)), (22, .int (x11.classes.length : Int)), (23, .int (q.1.2.1 : Int))]) (fun q => [(3, .box (eSt a1) 28)]) (fun q => q.1.1.length) ⟨(x11.classes, 0, v3), rfl, h24⟩ [] ⟨⟨rfl, rfl, (by repeat (first | exact trivial | exact rfl | (refine And.intro ?_ ?_))), rfl, rfl, (by repeat (first | exact trivial | exact rfl | (refine And.intro ?_ ?_))), rfl, rfl, trivial⟩, ⟨rfl, trivial⟩, rfl, rfl⟩ (by intro q; rw [hn]; rfl) ?_
            rintro ⟨⟨rest_, k19, v20⟩, hd26, h24⟩ Q650 qn650 qx650 qr650
            replace hd26 : rest_ = x11.classes.drop k19 := hd26
            rcases rest_ with _ | ⟨x28, rest25⟩
            · have hlt30 := restNil hd26
              replace h24 := (tally_All_l2.eq_1 _ _ _).symm.trans h24
              refine COk.seqQ fun Q651 qn651 qx651 qr651 => ?_
              refine gor hn ?_
              refine qn651 _ _ ?_
              refine COk.seqQ fun Q652 qn652 qx652 qr652 => ?_
              refine goc hn ?_
              refine bselF hlt30 ?_
              refine goe hn ?_
              refine qx652 _ _ _ ?_
              refine qx650 _ _ _ ?_
              refine qe649 _ _ ?_
              refine qn648 _ _ ?_
              obtain rfl := Option.some.inj h24
              refine EOk.done ?_
              exact ⟨⟨_, rfl⟩, [], trivial, ⟨⟨rfl, rfl, (by repeat (first | exact trivial | exact rfl | (refine And.intro ?_ ?_))), rfl, rfl, trivial⟩, ⟨rfl, trivial⟩, rfl, rfl⟩⟩
            · obtain ⟨hx29, hd2, hlt30⟩ := restCons hd26
              replace h24 := (tally_All_l2.eq_2 _ _ _ _ _).symm.trans h24
              refine COk.seqQ fun Q653 qn653 qx653 qr653 => ?_
              refine gor hn ?_
              refine qn653 _ _ ?_
              refine COk.seqQ fun Q654 qn654 qx654 qr654 => ?_
              refine goc hn ?_
              refine bselT hlt30 ?_
              refine gok hn ?_
              refine qn654 _ _ ?_
              refine COk.seqQ fun Q655 qn655 qx655 qr655 => ?_
              refine COk.blkQ fun Q658 qn658 qe658 qx658 qr658 => ?_
              refine COk.seqQ fun Q659 qn659 qx659 qr659 => ?_
              refine gor hn ?_
              refine idxK hx29 ?_
              refine qn659 _ _ ?_
              refine gor hn ?_
              refine Or.inr ?_
              refine qn658 _ _ ?_
              refine qn655 _ _ ?_
              refine gor hn ?_
              refine Or.inl (And.intro (inrK hx29 hl18) ?_)
              refine qn650 _ _ ?_
              refine EOk.done ?_
              exact ⟨⟨(rest25, k19 + 1, (wr (v20 + x28.found))), hd2, h24⟩, [], by show rest25.length < rest25.length + 1; omega, ⟨⟨rfl, rfl, (by repeat (first | exact trivial | exact rfl | (refine And.intro ?_ ?_))), rfl, rfl, (by repeat (first | exact trivial | exact rfl | (refine And.intro ?_ ?_))), rfl, rfl, trivial⟩, ⟨rfl, trivial⟩, rfl, rfl⟩⟩
          rintro ⟨v22, hv_⟩
          replace hv_ := hv_.symm
          subst hv_
          refine qn622 _ _ ?_
          refine qn621 _ _ ?_
          obtain rfl := Option.some.inj h15
          refine EOk.done ?_
          exact ⟨⟨_, rfl⟩, [], trivial, ⟨⟨rfl, rfl, (by repeat (first | exact trivial | exact rfl | (refine And.intro ?_ ?_))), rfl, rfl, trivial⟩, ⟨rfl, trivial⟩, rfl, rfl⟩⟩
      rintro ⟨v14, hv_⟩
      replace hv_ := hv_.symm
      subst hv_
      refine qn582 _ _ ?_
      refine gor hn ?_
      refine Or.inl (And.intro (inrK hx12 hl1) ?_)
      refine qn577 _ _ ?_
      refine EOk.done ?_
      exact ⟨⟨(rest8, k2 + 1, v14), hd2, h7⟩, [], by show rest8.length < rest8.length + 1; omega, ⟨⟨rfl, rfl, (by repeat (first | exact trivial | exact rfl | (refine And.intro ?_ ?_))), rfl, rfl, trivial⟩, ⟨rfl, trivial⟩, rfl, rfl⟩⟩
  rintro ⟨v5, hv_⟩
  replace hv_ := hv_.symm
  subst hv_
  refine qn333 _ _ ?_
  refine COk.seqQ fun Q660 qn660 qx660 qr660 => ?_
  refine gor hn ?_
  refine qn660 _ _ ?_
  refine got hn ?_
  obtain rfl := Option.some.inj h
  exact ⟨[], _, rfl, (by repeat (first | exact trivial | exact rfl | (refine And.intro ?_ ?_))), trivial, rfl, rfl, rfl, rfl, rfl⟩

/- choose.Site -/
set_option maxRecDepth 100000 in
set_option maxHeartbeats 1000000 in
theorem choose_Site_ok (N : Nat) (a0 : Wd) (a1 : (List Tl)) (a2 : St) (a3 : ByteArray) (a4 : Int) (r : Int) (h : choose_Site N a0 a1 a2 a3 a4 = some r) : Spec Try.prog 82 [] [.agg (eWd a0), .sl 4 (List.map eTl a1), .agg (eSt a2), .str a3, .int a4] (.int r) [] [] := by
  refine Spec.of tabOk Try.func82 rfl Try.ntmps82 (by kernel_rfl) rfl rfl rfl fun Γ hn => ?_
  unfold choose_Site at h
  refine COk.seqQ fun Q16 qn16 qx16 qr16 => ?_
  refine gor hn ?_
  refine qn16 _ _ ?_
  refine COk.seqQ fun Q17 qn17 qx17 qr17 => ?_
  refine gor hn ?_
  obtain ⟨r1, hr2, h⟩ := bindM h
  show CallOk Try.prog _ _ _ _
  refine CallOk.as (tally_Most_ok N a1 a2 r1 hr2) (by repeat (first | exact trivial | exact rfl | (refine And.intro ?_ ?_))) trivial rfl ?_
  refine qn17 _ _ ?_
  refine COk.seqQ fun Q18 qn18 qx18 qr18 => ?_
  refine COk.seqQ fun Q19 qn19 qx19 qr19 => ?_
  refine gor hn ?_
  obtain ⟨r3, hr4, h⟩ := bindM h
  show CallOk Try.prog _ _ _ _
  refine CallOk.as (tally_All_ok N a1 a2 r3 hr4) (by repeat (first | exact trivial | exact rfl | (refine And.intro ?_ ?_))) trivial rfl ?_
  refine qn19 _ _ ?_
  refine COk.seqQ fun Q20 qn20 qx20 qr20 => ?_
  obtain ⟨o7, h6, h⟩ := bindM h
  refine COk.joinR (ι := { s : Bool // o7 = s }) (fun s => [(3, .str a3), (4, .int a4), (5, .ptr 5 0), (11, .int r1.1), (36, .bool s.1)]) (fun s => [(5, .box (eWd a0) 26)]) (fun Q21 qn21 qx21 qr21 => ?_) (by intro s; rw [hn]; rfl) ?_
  · refine COk.sub (ts2 := [(3, .str a3), (4, .int a4), (5, .ptr 5 0), (11, .int r1.1), (12, .int r1.2), (13, .int r3)]) (os2 := [(5, .box (eWd a0) 26)]) [] ⟨⟨rfl, rfl, rfl, rfl, rfl, rfl, trivial⟩, ⟨rfl, trivial⟩, rfl, rfl⟩ (by rw [hn]; rfl) ?_
    refine gor hn ?_
    refine bselM h6 (fun hb8 h6 => ?_) (fun hb8 h6 => ?_)
    · refine bselT hb8 ?_
      refine bselT hb8 ?_
      refine qn21 _ _ ?_
      obtain rfl := Option.some.inj h6
      refine EOk.done ?_
      exact ⟨⟨_, rfl⟩, [], trivial, ⟨⟨rfl, rfl, rfl, rfl, rfl, trivial⟩, ⟨rfl, trivial⟩, rfl, rfl⟩⟩
    · refine bselF hb8 ?_
      refine bselF hb8 ?_
      refine bselM h6 (fun hb9 h6 => ?_) (fun hb9 h6 => ?_)
      · refine bselT hb9 ?_
        refine bselT hb9 ?_
        refine bselT hb9 ?_
        refine bselT hb9 ?_
        refine qn21 _ _ ?_
        obtain rfl := Option.some.inj h6
        refine EOk.done ?_
        exact ⟨⟨_, rfl⟩, [], trivial, ⟨⟨rfl, rfl, rfl, rfl, rfl, trivial⟩, ⟨rfl, trivial⟩, rfl, rfl⟩⟩
      · refine bselF hb9 ?_
        refine Or.inr ?_
        refine bselF hb9 ?_
        refine bselF hb9 ?_
        refine bselF hb9 ?_
        refine qn21 _ _ ?_
        obtain rfl := Option.some.inj h6
        refine EOk.done ?_
        exact ⟨⟨_, rfl⟩, [], trivial, ⟨⟨rfl, rfl, rfl, rfl, rfl, trivial⟩, ⟨rfl, trivial⟩, rfl, rfl⟩⟩
  rintro ⟨v5, hv_⟩
  replace hv_ := hv_.symm
  subst hv_
  refine qn20 _ _ ?_
  refine goc hn ?_
  refine bselM h (fun hb10 h => ?_) (fun hb10 h => ?_)
  · refine COk.seqQ fun Q23 qn23 qx23 qr23 => ?_
    refine gor hn ?_
    refine qn23 _ _ ?_
    refine got hn ?_
    refine qr18 _ _ ?_
    obtain rfl := Option.some.inj h
    exact ⟨[], _, rfl, (by repeat (first | exact trivial | exact rfl | (refine And.intro ?_ ?_))), trivial, rfl, rfl, rfl, rfl, rfl⟩
  · refine gok hn ?_
    refine qn18 _ _ ?_
    refine COk.seqQ fun Q24 qn24 qx24 qr24 => ?_
    refine gor hn ?_
    obtain ⟨r11, hr12, h⟩ := bindM h
    show CallOk Try.prog _ _ _ _
    refine CallOk.as (class_Find_ok N a0 r1.1 a3 r11 hr12) (by repeat (first | exact trivial | exact rfl | (refine And.intro ?_ ?_))) trivial rfl ?_
    refine qn24 _ _ ?_
    refine COk.seqQ fun Q25 qn25 qx25 qr25 => ?_
    refine COk.seqQ fun Q26 qn26 qx26 qr26 => ?_
    obtain ⟨o15, h14, h⟩ := bindM h
    refine COk.joinR (ι := { s : Bool // o15 = s }) (fun s => [(11, .int r1.1), (72, .bool s.1)]) (fun s => []) (fun Q27 qn27 qx27 qr27 => ?_) (by intro s; rw [hn]; rfl) ?_
    · refine gor hn ?_
      refine bselM h14 (fun hb16 h14 => ?_) (fun hb16 h14 => ?_)
      · refine bselT hb16 ?_
        refine bselT hb16 ?_
        refine bselT hb16 ?_
        refine bselT hb16 ?_
        refine bselT hb16 ?_
        refine bselT hb16 ?_
        refine bselT hb16 ?_
        refine bselT hb16 ?_
        refine bselT hb16 ?_
        refine bselT hb16 ?_
        refine bselT hb16 ?_
        refine qn27 _ _ ?_
        obtain rfl := Option.some.inj h14
        refine EOk.done ?_
        exact ⟨⟨_, rfl⟩, [], trivial, ⟨⟨rfl, rfl, trivial⟩, trivial, rfl, rfl⟩⟩
      · refine bselF hb16 ?_
        refine bselF hb16 ?_
        refine bselF hb16 ?_
        obtain ⟨x17, hx18, h14⟩ := bindM h14
        refine idxM hx18 ?_
        refine bselF hb16 ?_
        refine bselF hb16 ?_
        refine bselF hb16 ?_
        refine bselF hb16 ?_
        obtain ⟨x19, hx20, h14⟩ := bindM h14
        refine idxM hx20 ?_
        refine bselF hb16 ?_
        refine bselF hb16 ?_
        obtain ⟨r21, hr22, h14⟩ := bindM h14
        show CallOk Try.prog _ _ _ _
        refine CallOk.as (choose_Leaf_ok N x19 r21 hr22) (by repeat (first | exact trivial | exact rfl | (refine And.intro ?_ ?_))) trivial rfl ?_
        refine bselF hb16 ?_
        refine bselF hb16 ?_
        refine bselM h14 (fun hb23 h14 => ?_) (fun hb23 h14 => ?_)
        · refine bselT hb23 ?_
          refine bselT hb23 ?_
          refine bselT hb23 ?_
          refine bselT hb23 ?_
          refine bselT hb23 ?_
          refine bselT hb23 ?_
          refine bselT hb23 ?_
          refine bselT hb23 ?_
          refine bselT hb23 ?_
          refine bselT hb23 ?_
          refine bselT hb23 ?_
          refine bselT hb23 ?_
          refine qn27 _ _ ?_
          obtain rfl := Option.some.inj h14
          refine EOk.done ?_
          exact ⟨⟨_, rfl⟩, [], trivial, ⟨⟨rfl, rfl, trivial⟩, trivial, rfl, rfl⟩⟩
        · refine bselF hb23 ?_
          refine bselF hb23 ?_
          refine bselF hb23 ?_
          obtain ⟨x24, hx25, h14⟩ := bindM h14
          refine idxM hx25 ?_
          refine bselF hb23 ?_
          refine bselF hb23 ?_
          refine bselF hb23 ?_
          refine bselF hb23 ?_
          obtain ⟨x26, hx27, h14⟩ := bindM h14
          refine idxM hx27 ?_
          refine bselF hb23 ?_
          refine bselF hb23 ?_
          refine bselF hb23 ?_
          refine bselF hb23 ?_
          refine bselF hb23 ?_
          refine qn27 _ _ ?_
          obtain rfl := Option.some.inj h14
          refine EOk.done ?_
          exact ⟨⟨_, rfl⟩, [], trivial, ⟨⟨rfl, rfl, trivial⟩, trivial, rfl, rfl⟩⟩
    rintro ⟨v13, hv_⟩
    replace hv_ := hv_.symm
    subst hv_
    refine qn26 _ _ ?_
    refine goc hn ?_
    refine bselM h (fun hb28 h => ?_) (fun hb28 h => ?_)
    · refine COk.seqQ fun Q29 qn29 qx29 qr29 => ?_
      refine gor hn ?_
      refine qn29 _ _ ?_
      refine got hn ?_
      refine qr25 _ _ ?_
      obtain rfl := Option.some.inj h
      exact ⟨[], _, rfl, (by repeat (first | exact trivial | exact rfl | (refine And.intro ?_ ?_))), trivial, rfl, rfl, rfl, rfl, rfl⟩
    · refine gok hn ?_
      refine qn25 _ _ ?_
      refine COk.seqQ fun Q30 qn30 qx30 qr30 => ?_
      refine gor hn ?_
      refine qn30 _ _ ?_
      refine got hn ?_
      obtain rfl := Option.some.inj h
      exact ⟨[], _, rfl, (by repeat (first | exact trivial | exact rfl | (refine And.intro ?_ ?_))), trivial, rfl, rfl, rfl, rfl, rfl⟩

/- choose.Sites -/
set_option maxRecDepth 100000 in
set_option maxHeartbeats 1000000 in
theorem choose_Sites_ok (N : Nat) (a0 : Wd) (a1 : (List Tl)) (a2 : Int) (a3 : Int) (r : (List Int)) (h : choose_Sites N a0 a1 a2 a3 = some r) : Spec Try.prog 62 [] [.agg (eWd a0), .sl 4 (List.map eTl a1), .int a2, .int a3] (.own 0) [(0, .row 1 (List.map eInt r) 3)] [0] := by
  refine Spec.of tabOk Try.func62 rfl Try.ntmps62 (by kernel_rfl) rfl rfl rfl fun Γ hn => ?_
  unfold choose_Sites at h
  refine COk.seqQ fun Q92 qn92 qx92 qr92 => ?_
  refine gor hn ?_
  refine qn92 _ _ ?_
  refine COk.seqQ fun Q93 qn93 qx93 qr93 => ?_
  refine COk.seqQ fun Q94 qn94 qx94 qr94 => ?_
  obtain ⟨o3, h2, h⟩ := bindM h
  refine COk.joinR (ι := { s : Bool // o3 = s }) (fun s => [(1, .sl 4 (List.map eTl a1)), (2, .int a2), (3, .int a3), (4, .ptr 4 0), (37, .bool s.1)]) (fun s => [(4, .box (eWd a0) 26)]) (fun Q95 qn95 qx95 qr95 => ?_) (by intro s; rw [hn]; rfl) ?_
  · refine gor hn ?_
    refine bselM h2 (fun hb4 h2 => ?_) (fun hb4 h2 => ?_)
    · refine bselT hb4 ?_
      refine bselT hb4 ?_
      refine bselT hb4 ?_
      refine bselT hb4 ?_
      refine bselT hb4 ?_
      refine qn95 _ _ ?_
      obtain rfl := Option.some.inj h2
      refine EOk.done ?_
      exact ⟨⟨_, rfl⟩, [], trivial, ⟨⟨(by repeat (first | exact trivial | exact rfl | (refine And.intro ?_ ?_))), rfl, rfl, rfl, rfl, trivial⟩, ⟨rfl, trivial⟩, rfl, rfl⟩⟩
    · refine bselF hb4 ?_
      refine bselF hb4 ?_
      refine bselF hb4 ?_
      refine lenM (fun hl5 => ?_)
      refine bselF hb4 ?_
      refine bselF hb4 ?_
      refine bselM h2 (fun hb6 h2 => ?_) (fun hb6 h2 => ?_)
      · refine bselT hb6 ?_
        refine bselT hb6 ?_
        refine qn95 _ _ ?_
        obtain rfl := Option.some.inj h2
        refine EOk.done ?_
        exact ⟨⟨_, rfl⟩, [], trivial, ⟨⟨(by repeat (first | exact trivial | exact rfl | (refine And.intro ?_ ?_))), rfl, rfl, rfl, rfl, trivial⟩, ⟨rfl, trivial⟩, rfl, rfl⟩⟩
      · refine bselF hb6 ?_
        refine bselF hb6 ?_
        refine bselM h2 (fun hb7 h2 => ?_) (fun hb7 h2 => ?_)
        · refine bselT hb7 ?_
          refine bselT hb7 ?_
          refine bselT hb7 ?_
          refine bselT hb7 ?_
          refine bselT hb7 ?_
          refine bselT hb7 ?_
          refine bselT hb7 ?_
          refine bselT hb7 ?_
          refine bselT hb7 ?_
          refine qn95 _ _ ?_
          obtain rfl := Option.some.inj h2
          refine EOk.done ?_
          exact ⟨⟨_, rfl⟩, [], trivial, ⟨⟨(by repeat (first | exact trivial | exact rfl | (refine And.intro ?_ ?_))), rfl, rfl, rfl, rfl, trivial⟩, ⟨rfl, trivial⟩, rfl, rfl⟩⟩
        · refine bselF hb7 ?_
          refine bselF hb7 ?_
          refine bselF hb7 ?_
          refine bselF hb7 ?_
          obtain ⟨x8, hx9, h2⟩ := bindM h2
          refine idxM hx9 ?_
          refine bselF hb7 ?_
          refine bselF hb7 ?_
          refine bselF hb7 ?_
          refine lenM (fun hl10 => ?_)
          refine bselF hb7 ?_
          refine bselF hb7 ?_
          refine qn95 _ _ ?_
          obtain rfl := Option.some.inj h2
          refine EOk.done ?_
          exact ⟨⟨_, rfl⟩, [], trivial, ⟨⟨(by repeat (first | exact trivial | exact rfl | (refine And.intro ?_ ?_))), rfl, rfl, rfl, rfl, trivial⟩, ⟨rfl, trivial⟩, rfl, rfl⟩⟩
  rintro ⟨v1, hv_⟩
  replace hv_ := hv_.symm
  subst hv_
  refine qn94 _ _ ?_
  refine goc hn ?_
  refine bselM h (fun hb11 h => ?_) (fun hb11 h => ?_)
  · refine COk.seqQ fun Q97 qn97 qx97 qr97 => ?_
    refine gor hn ?_
    refine qn97 _ _ ?_
    refine COk.nilrow 8 208 1 3 rfl rfl rfl ?_
    refine got hn ?_
    refine qr93 _ _ ?_
    obtain rfl := Option.some.inj h
    exact ⟨[(0, 208)], _, rfl, (by repeat (first | exact trivial | exact rfl | (refine And.intro ?_ ?_))), ⟨rfl, trivial⟩, rfl, rfl, rfl, rfl, rfl⟩
  · refine gok hn ?_
    refine qn93 _ _ ?_
    refine COk.seqQ fun Q98 qn98 qx98 qr98 => ?_
    refine gor hn ?_
    obtain ⟨x12, hx13, h⟩ := bindM h
    refine idxM hx13 ?_
    obtain ⟨x14, hx15, h⟩ := bindM h
    refine idxM hx15 ?_
    refine qn98 _ _ ?_
    refine COk.seqQ fun Q99 qn99 qx99 qr99 => ?_
    refine gor hn ?_
    refine qn99 _ _ ?_
    refine COk.seqQ fun Q100 qn100 qx100 qr100 => ?_
    refine COk.seqQ fun Q101 qn101 qx101 qr101 => ?_
    refine gor hn ?_
    refine lenM (fun hl16 => ?_)
    refine qn101 _ _ ?_
    refine COk.nilrow 10 210 1 3 rfl rfl rfl ?_
    obtain ⟨o21, h22, h⟩ := bindM h
    refine COk.joinR (ι := { s : (List Int) // o21 = s }) (fun s => [(10, .own 210)]) (fun s => [(210, .row 1 (List.map eInt s.1) 3)]) (fun Q162 qn162 qx162 qr162 => ?_) (by intro s; rw [hn]; rfl) ?_
    · refine COk.blkQ fun Q163 qn163 qe163 qx163 qr163 => ?_
      refine COk.loopQ (ι := { q : ((List Ins) × Nat × (List Int)) // q.1 = x14.code.drop q.2.1 ∧ choose_Sites_l1 N a0 a1 a2 x14 q.1 q.2.1 q.2.2 = some o21 }) (fun q => [(1, .sl 4 (List.map eTl a1)), (2, .int a2), (4, .ptr 4 0), (9, .fp (eMe x14)), (10, .own 210), (49, .sl 5 (List.map eIns x14.code)), (50, .int (x14.code.length : Int)), (51, .int (q.1.2.1 : Int))]) (fun q => [(4, .box (eWd a0) 26), (210, .row 1 (List.map eInt q.1.2.2) 3)]) (fun q => q.1.1.length) ⟨(x14.code, 0, ([] : List Int)), rfl, h22⟩ [] ⟨⟨(by repeat (first | exact trivial | exact rfl | (refine And.intro ?_ ?_))), rfl, rfl, (by repeat (first | exact trivial | exact rfl | (refine And.intro ?_ ?_))), rfl, (by repeat (first | exact trivial | exact rfl | (refine And.intro ?_ ?_))), rfl, rfl, trivial⟩, ⟨rfl, rfl, trivial⟩, rfl, rfl⟩ (by intro q; rw [hn]; rfl) ?_
      rintro ⟨⟨rest_, k17, v18⟩, hd24, h22⟩ Q164 qn164 qx164 qr164
      replace hd24 : rest_ = x14.code.drop k17 := hd24
      rcases rest_ with _ | ⟨x26, rest23⟩
      · have hlt28 := restNil hd24
        replace h22 := (choose_Sites_l1.eq_1 _ _ _ _ _ _ _).symm.trans h22
        refine COk.seqQ fun Q165 qn165 qx165 qr165 => ?_
        refine gor hn ?_
        refine qn165 _ _ ?_
        refine COk.seqQ fun Q166 qn166 qx166 qr166 => ?_
        refine goc hn ?_
        refine bselF hlt28 ?_
        refine goe hn ?_
        refine qx166 _ _ _ ?_
        refine qx164 _ _ _ ?_
        refine qe163 _ _ ?_
        refine qn162 _ _ ?_
        obtain rfl := Option.some.inj h22
        refine EOk.done ?_
        exact ⟨⟨_, rfl⟩, [], trivial, ⟨⟨rfl, trivial⟩, ⟨rfl, trivial⟩, rfl, rfl⟩⟩
      · obtain ⟨hx27, hd2, hlt28⟩ := restCons hd24
        replace h22 := (choose_Sites_l1.eq_2 _ _ _ _ _ _ _ _ _).symm.trans h22
        refine COk.seqQ fun Q167 qn167 qx167 qr167 => ?_
        refine gor hn ?_
        refine qn167 _ _ ?_
        refine COk.seqQ fun Q168 qn168 qx168 qr168 => ?_
        refine goc hn ?_
        refine bselT hlt28 ?_
        refine gok hn ?_
        refine qn168 _ _ ?_
        refine COk.seqQ fun Q169 qn169 qx169 qr169 => ?_
        refine COk.blkQ fun Q176 qn176 qe176 qx176 qr176 => ?_
        refine COk.seqQ fun Q177 qn177 qx177 qr177 => ?_
        refine gor hn ?_
        refine idxK hx27 ?_
        refine qn177 _ _ ?_
        refine COk.seqQ fun Q178 qn178 qx178 qr178 => ?_
        refine gor hn ?_
        refine qn178 _ _ ?_
        refine COk.seqQ fun Q179 qn179 qx179 qr179 => ?_
        refine COk.seqQ fun Q180 qn180 qx180 qr180 => ?_
        refine gor hn ?_
        refine qn180 _ _ ?_
        obtain ⟨o31, h30, h22⟩ := bindM h22
        refine COk.joinR (ι := { s : Int // o31 = s }) (fun s => [(1, .sl 4 (List.map eTl a1)), (2, .int a2), (4, .ptr 4 0), (9, .fp (eMe x14)), (10, .own 210), (13, .int s.1), (49, .sl 5 (List.map eIns x14.code)), (50, .int (x14.code.length : Int)), (51, .int (k17 : Int))]) (fun s => [(4, .box (eWd a0) 26), (210, .row 1 (List.map eInt v18) 3)]) (fun Q181 qn181 qx181 qr181 => ?_) (by intro s; rw [hn]; rfl) ?_
        · refine goc hn ?_
          refine bselM h30 (fun hb32 h30 => ?_) (fun hb32 h30 => ?_)
          · refine COk.sub (ts2 := [(1, .sl 4 (List.map eTl a1)), (2, .int a2), (4, .ptr 4 0), (9, .fp (eMe x14)), (10, .own 210), (11, .int (k17 : Int)), (12, .ptr 12 0), (49, .sl 5 (List.map eIns x14.code)), (50, .int (x14.code.length : Int)), (51, .int (k17 : Int))]) (os2 := [(4, .box (eWd a0) 26), (12, .box (eIns x26) 62), (210, .row 1 (List.map eInt v18) 3)]) [] ⟨⟨(by repeat (first | exact trivial | exact rfl | (refine And.intro ?_ ?_))), rfl, rfl, (by repeat (first | exact trivial | exact rfl | (refine And.intro ?_ ?_))), rfl, rfl, rfl, (by repeat (first | exact trivial | exact rfl | (refine And.intro ?_ ?_))), rfl, rfl, trivial⟩, ⟨rfl, rfl, rfl, trivial⟩, rfl, rfl⟩ (by rw [hn]; rfl) ?_
            refine god hn (by kernel_rfl) ?_
            obtain ⟨r33, hr34, h30⟩ := bindM h30
            show CallOk Try.prog _ _ _ _
            refine CallOk.as (choose_Site_ok N a0 a1 (⟨a2, x14.name, (k17 : Int)⟩ : St) x26.name x26.a r33 hr34) (by repeat (first | exact trivial | exact rfl | (refine And.intro ?_ ?_))) trivial rfl ?_
            refine qn181 _ _ ?_
            obtain rfl := Option.some.inj h30
            refine EOk.done ?_
            exact ⟨⟨_, rfl⟩, [], trivial, ⟨⟨(by repeat (first | exact trivial | exact rfl | (refine And.intro ?_ ?_))), rfl, rfl, (by repeat (first | exact trivial | exact rfl | (refine And.intro ?_ ?_))), rfl, rfl, (by repeat (first | exact trivial | exact rfl | (refine And.intro ?_ ?_))), rfl, rfl, trivial⟩, ⟨rfl, rfl, trivial⟩, rfl, rfl⟩⟩
          · refine gok hn ?_
            refine qn181 _ _ ?_
            obtain rfl := Option.some.inj h30
            refine EOk.done ?_
            exact ⟨⟨_, rfl⟩, [], trivial, ⟨⟨(by repeat (first | exact trivial | exact rfl | (refine And.intro ?_ ?_))), rfl, rfl, (by repeat (first | exact trivial | exact rfl | (refine And.intro ?_ ?_))), rfl, rfl, (by repeat (first | exact trivial | exact rfl | (refine And.intro ?_ ?_))), rfl, rfl, trivial⟩, ⟨rfl, rfl, trivial⟩, rfl, rfl⟩⟩
        rintro ⟨v29, hv_⟩
        replace hv_ := hv_.symm
        subst hv_
        refine qn179 _ _ ?_
        refine gor hn ?_
        refine Exists.intro (List.map eInt [v29]) (And.intro (by repeat (first | exact trivial | exact rfl | (refine And.intro ?_ ?_))) ?_)
        obtain ⟨hg35, h22⟩ := guardM h22
        refine appM (l2 := [v29]) hg35 (leLs_refl _) ?_
        refine qn176 _ _ ?_
        refine qn169 _ _ ?_
        refine gor hn ?_
        refine Or.inl (And.intro (inrK hx27 hl16) ?_)
        refine qn164 _ _ ?_
        refine EOk.done ?_
        exact ⟨⟨(rest23, k17 + 1, (v18 ++ [v29])), hd2, h22⟩, [(210, 76)], by show rest23.length < rest23.length + 1; omega, ⟨⟨(by repeat (first | exact trivial | exact rfl | (refine And.intro ?_ ?_))), rfl, rfl, (by repeat (first | exact trivial | exact rfl | (refine And.intro ?_ ?_))), rfl, (by repeat (first | exact trivial | exact rfl | (refine And.intro ?_ ?_))), rfl, rfl, trivial⟩, ⟨rfl, rfl, trivial⟩, rfl, rfl⟩⟩
    rintro ⟨v20, hv_⟩
    replace hv_ := hv_.symm
    subst hv_
    refine qn100 _ _ ?_
    refine COk.seqQ fun Q182 qn182 qx182 qr182 => ?_
    refine gor hn ?_
    refine qn182 _ _ ?_
    refine got hn ?_
    obtain rfl := Option.some.inj h
    exact ⟨[(0, 210)], _, rfl, (by repeat (first | exact trivial | exact rfl | (refine And.intro ?_ ?_))), ⟨rfl, trivial⟩, rfl, rfl, rfl, rfl, rfl⟩

/- fast.All -/
set_option maxRecDepth 100000 in
set_option maxHeartbeats 1000000 in
theorem fast_All_ok (N : Nat) (a0 : Wd) (a1 : (List Tl)) (r : (List Fs)) (h : fast_All N a0 a1 = some r) : Spec Try.prog 29 [] [.agg (eWd a0), .sl 4 (List.map eTl a1)] (.own 0) [(0, .row 5 (List.map eFs r) 53)] [0] := by
  refine Spec.of tabOk Try.func29 rfl Try.ntmps29 (by kernel_rfl) rfl rfl rfl fun Γ hn => ?_
  unfold fast_All at h
  refine COk.seqQ fun Q527 qn527 qx527 qr527 => ?_
  refine gor hn ?_
  refine qn527 _ _ ?_
  refine COk.seqQ fun Q528 qn528 qx528 qr528 => ?_
  refine gor hn ?_
  refine qn528 _ _ ?_
  refine COk.seqQ fun Q529 qn529 qx529 qr529 => ?_
  refine COk.seqQ fun Q530 qn530 qx530 qr530 => ?_
  refine gor hn ?_
  refine lenM (fun hl1 => ?_)
  refine qn530 _ _ ?_
  refine COk.nilrow 5 205 5 53 rfl rfl rfl ?_
  obtain ⟨o6, h7, h⟩ := bindM h
  refine COk.joinR (ι := { s : (List Fs) // o6 = s }) (fun s => [(5, .own 205)]) (fun s => [(205, .row 5 (List.map eFs s.1) 53)]) (fun Q944 qn944 qx944 qr944 => ?_) (by intro s; rw [hn]; rfl) ?_
  · refine COk.blkQ fun Q945 qn945 qe945 qx945 qr945 => ?_
    refine COk.loopQ (ι := { q : ((List Cl) × Nat × (List Fs)) // q.1 = a0.classes.drop q.2.1 ∧ fast_All_l1 N a0 a1 q.1 q.2.1 q.2.2 = some o6 }) (fun q => [(1, .sl 4 (List.map eTl a1)), (2, .ptr 2 0), (5, .own 205), (12, .int (a0.classes.length : Int)), (13, .int (q.1.2.1 : Int))]) (fun q => [(2, .box (eWd a0) 26), (205, .row 5 (List.map eFs q.1.2.2) 53)]) (fun q => q.1.1.length) ⟨(a0.classes, 0, ([] : List Fs)), rfl, h7⟩ [] ⟨⟨(by repeat (first | exact trivial | exact rfl | (refine And.intro ?_ ?_))), rfl, rfl, rfl, rfl, trivial⟩, ⟨rfl, rfl, trivial⟩, rfl, rfl⟩ (by intro q; rw [hn]; rfl) ?_
    rintro ⟨⟨rest_, k2, v3⟩, hd9, h7⟩ Q946 qn946 qx946 qr946
    replace hd9 : rest_ = a0.classes.drop k2 := hd9
    rcases rest_ with _ | ⟨x11, rest8⟩
    · have hlt13 := restNil hd9
      replace h7 := (fast_All_l1.eq_1 _ _ _ _ _).symm.trans h7
      refine COk.seqQ fun Q947 qn947 qx947 qr947 => ?_
      refine gor hn ?_
      refine qn947 _ _ ?_
      refine COk.seqQ fun Q948 qn948 qx948 qr948 => ?_
      refine goc hn ?_
      refine bselF hlt13 ?_
      refine goe hn ?_
      refine qx948 _ _ _ ?_
      refine qx946 _ _ _ ?_
      refine qe945 _ _ ?_
      refine qn944 _ _ ?_
      obtain rfl := Option.some.inj h7
      refine EOk.done ?_
      exact ⟨⟨_, rfl⟩, [], trivial, ⟨⟨rfl, trivial⟩, ⟨rfl, trivial⟩, rfl, rfl⟩⟩
    · obtain ⟨hx12, hd2, hlt13⟩ := restCons hd9
      replace h7 := (fast_All_l1.eq_2 _ _ _ _ _ _ _).symm.trans h7
      refine COk.seqQ fun Q949 qn949 qx949 qr949 => ?_
      refine gor hn ?_
      refine qn949 _ _ ?_
      refine COk.seqQ fun Q950 qn950 qx950 qr950 => ?_
      refine goc hn ?_
      refine bselT hlt13 ?_
      refine gok hn ?_
      refine qn950 _ _ ?_
      refine COk.seqQ fun Q951 qn951 qx951 qr951 => ?_
      refine COk.blkQ fun Q1012 qn1012 qe1012 qx1012 qr1012 => ?_
      refine COk.seqQ fun Q1013 qn1013 qx1013 qr1013 => ?_
      refine gor hn ?_
      refine qn1013 _ _ ?_
      refine COk.seqQ fun Q1014 qn1014 qx1014 qr1014 => ?_
      refine gor hn ?_
      refine idxK hx12 ?_
      refine lenM (fun hl14 => ?_)
      refine qn1014 _ _ ?_
      obtain ⟨o19, h20, h7⟩ := bindM h7
      refine COk.joinR (ι := { s : (List Fs) // o19 = s }) (fun s => [(1, .sl 4 (List.map eTl a1)), (2, .ptr 2 0), (5, .own 205), (12, .int (a0.classes.length : Int)), (13, .int (k2 : Int))]) (fun s => [(2, .box (eWd a0) 26), (205, .row 5 (List.map eFs s.1) 53)]) (fun Q1039 qn1039 qx1039 qr1039 => ?_) (by intro s; rw [hn]; rfl) ?_
      · refine COk.blkQ fun Q1040 qn1040 qe1040 qx1040 qr1040 => ?_
        refine COk.loopQ (ι := { q : ((List Me) × Nat × (List Fs)) // q.1 = x11.methods.drop q.2.1 ∧ fast_All_l2 N a0 a1 k2 q.1 q.2.1 q.2.2 = some o19 }) (fun q => [(1, .sl 4 (List.map eTl a1)), (2, .ptr 2 0), (5, .own 205), (6, .int (k2 : Int)), (12, .int (a0.classes.length : Int)), (13, .int (k2 : Int)), (22, .int (x11.methods.length : Int)), (23, .int (q.1.2.1 : Int))]) (fun q => [(2, .box (eWd a0) 26), (205, .row 5 (List.map eFs q.1.2.2) 53)]) (fun q => q.1.1.length) ⟨(x11.methods, 0, v3), rfl, h20⟩ [] ⟨⟨(by repeat (first | exact trivial | exact rfl | (refine And.intro ?_ ?_))), rfl, rfl, rfl, rfl, rfl, rfl, rfl, trivial⟩, ⟨rfl, rfl, trivial⟩, rfl, rfl⟩ (by intro q; rw [hn]; rfl) ?_
        rintro ⟨⟨rest_, k15, v16⟩, hd22, h20⟩ Q1041 qn1041 qx1041 qr1041
        replace hd22 : rest_ = x11.methods.drop k15 := hd22
        rcases rest_ with _ | ⟨x24, rest21⟩
        · have hlt26 := restNil hd22
          replace h20 := (fast_All_l2.eq_1 _ _ _ _ _ _).symm.trans h20
          refine COk.seqQ fun Q1042 qn1042 qx1042 qr1042 => ?_
          refine gor hn ?_
          refine qn1042 _ _ ?_
          refine COk.seqQ fun Q1043 qn1043 qx1043 qr1043 => ?_
          refine goc hn ?_
          refine bselF hlt26 ?_
          refine goe hn ?_
          refine qx1043 _ _ _ ?_
          refine qx1041 _ _ _ ?_
          refine qe1040 _ _ ?_
          refine qn1039 _ _ ?_
          obtain rfl := Option.some.inj h20
          refine EOk.done ?_
          exact ⟨⟨_, rfl⟩, [], trivial, ⟨⟨(by repeat (first | exact trivial | exact rfl | (refine And.intro ?_ ?_))), rfl, rfl, rfl, rfl, trivial⟩, ⟨rfl, rfl, trivial⟩, rfl, rfl⟩⟩
        · obtain ⟨hx25, hd2, hlt26⟩ := restCons hd22
          replace h20 := (fast_All_l2.eq_2 _ _ _ _ _ _ _ _).symm.trans h20
          refine COk.seqQ fun Q1044 qn1044 qx1044 qr1044 => ?_
          refine gor hn ?_
          refine qn1044 _ _ ?_
          refine COk.seqQ fun Q1045 qn1045 qx1045 qr1045 => ?_
          refine goc hn ?_
          refine bselT hlt26 ?_
          refine gok hn ?_
          refine qn1045 _ _ ?_
          refine COk.seqQ fun Q1046 qn1046 qx1046 qr1046 => ?_
          refine COk.blkQ fun Q1047 qn1047 qe1047 qx1047 qr1047 => ?_
          refine COk.seqQ fun Q1048 qn1048 qx1048 qr1048 => ?_
          refine gor hn ?_
          refine qn1048 _ _ ?_
          refine COk.seqQ fun Q1049 qn1049 qx1049 qr1049 => ?_
          refine god hn (by kernel_rfl) ?_
          obtain ⟨r27, hr28, h20⟩ := bindM h20
          show CallOk Try.prog _ _ _ _
          refine CallOk.as ((choose_Sites_ok N a0 a1 (k2 : Int) (k15 : Int) r27 hr28).sw 0 34) (by repeat (first | exact trivial | exact rfl | (refine And.intro ?_ ?_))) trivial rfl ?_
          obtain ⟨r29, hr30, h20⟩ := bindM h20
          show CallOk Try.prog _ _ _ _
          refine CallOk.fz (inline_Method_ok N a0 (k2 : Int) (k15 : Int) r27 r29 hr30) (by repeat (first | exact trivial | exact rfl | (refine And.intro ?_ ?_))) trivial rfl rfl ?_
          refine qn1049 _ _ ?_
          refine COk.seqQ fun Q1050 qn1050 qx1050 qr1050 => ?_
          refine COk.sub (ts2 := [(1, .sl 4 (List.map eTl a1)), (2, .ptr 2 0), (5, .own 205), (6, .int (k2 : Int)), (8, .ptr 8 0), (9, .bool r29.2), (12, .int (a0.classes.length : Int)), (13, .int (k2 : Int)), (22, .int (x11.methods.length : Int)), (23, .int (k15 : Int))]) (os2 := [(2, .box (eWd a0) 26), (8, .box (eFs r29.1) 53), (205, .row 5 (List.map eFs v16) 53)]) [] ⟨⟨(by repeat (first | exact trivial | exact rfl | (refine And.intro ?_ ?_))), rfl, rfl, rfl, rfl, rfl, rfl, rfl, rfl, rfl, trivial⟩, ⟨rfl, rfl, rfl, trivial⟩, rfl, rfl⟩ (by rw [hn]; rfl) ?_
          refine gor hn ?_
          refine qn1050 _ _ ?_
          obtain ⟨o33, h32, h20⟩ := bindM h20
          refine COk.joinR (ι := { s : (List Fs) // o33 = s }) (fun s => [(1, .sl 4 (List.map eTl a1)), (2, .ptr 2 0), (5, .own 42), (6, .int (k2 : Int)), (12, .int (a0.classes.length : Int)), (13, .int (k2 : Int)), (22, .int (x11.methods.length : Int)), (23, .int (k15 : Int))]) (fun s => [(2, .box (eWd a0) 26), (42, .row 5 (List.map eFs s.1) 53)]) (fun Q1051 qn1051 qx1051 qr1051 => ?_) (by intro s; rw [hn]; rfl) ?_
          · refine goc hn ?_
            refine bselM h32 (fun hb34 h32 => ?_) (fun hb34 h32 => ?_)
            · refine gor hn ?_
              refine Exists.intro (List.map eFs [r29.1]) (And.intro (by repeat (first | exact trivial | exact rfl | (refine And.intro ?_ ?_))) ?_)
              obtain ⟨hg35, h32⟩ := guardM h32
              refine appM (l2 := [r29.1]) hg35 (leLs_refl _) ?_
              refine qn1051 _ _ ?_
              obtain rfl := Option.some.inj h32
              refine EOk.done ?_
              exact ⟨⟨_, rfl⟩, [], trivial, ⟨⟨(by repeat (first | exact trivial | exact rfl | (refine And.intro ?_ ?_))), rfl, rfl, rfl, rfl, rfl, rfl, rfl, trivial⟩, ⟨rfl, rfl, trivial⟩, rfl, rfl⟩⟩
            · refine gok hn ?_
              refine qn1051 _ _ ?_
              obtain rfl := Option.some.inj h32
              refine EOk.done ?_
              exact ⟨⟨_, rfl⟩, [(42, 205)], trivial, ⟨⟨(by repeat (first | exact trivial | exact rfl | (refine And.intro ?_ ?_))), rfl, rfl, rfl, rfl, rfl, rfl, rfl, trivial⟩, ⟨rfl, rfl, trivial⟩, rfl, rfl⟩⟩
          rintro ⟨v31, hv_⟩
          replace hv_ := hv_.symm
          subst hv_
          refine qn1047 _ _ ?_
          refine qn1046 _ _ ?_
          refine gor hn ?_
          refine Or.inl (And.intro (inrK hx25 hl14) ?_)
          refine qn1041 _ _ ?_
          refine EOk.done ?_
          exact ⟨⟨(rest21, k15 + 1, v31), hd2, h20⟩, [(205, 42)], by show rest21.length < rest21.length + 1; omega, ⟨⟨(by repeat (first | exact trivial | exact rfl | (refine And.intro ?_ ?_))), rfl, rfl, rfl, rfl, rfl, rfl, rfl, trivial⟩, ⟨rfl, rfl, trivial⟩, rfl, rfl⟩⟩
      rintro ⟨v18, hv_⟩
      replace hv_ := hv_.symm
      subst hv_
      refine qn1012 _ _ ?_
      refine qn951 _ _ ?_
      refine gor hn ?_
      refine Or.inl (And.intro (inrK hx12 hl1) ?_)
      refine qn946 _ _ ?_
      refine EOk.done ?_
      exact ⟨⟨(rest8, k2 + 1, v18), hd2, h7⟩, [], by show rest8.length < rest8.length + 1; omega, ⟨⟨(by repeat (first | exact trivial | exact rfl | (refine And.intro ?_ ?_))), rfl, rfl, rfl, rfl, trivial⟩, ⟨rfl, rfl, trivial⟩, rfl, rfl⟩⟩
  rintro ⟨v5, hv_⟩
  replace hv_ := hv_.symm
  subst hv_
  refine qn529 _ _ ?_
  refine COk.seqQ fun Q1052 qn1052 qx1052 qr1052 => ?_
  refine gor hn ?_
  refine qn1052 _ _ ?_
  refine got hn ?_
  obtain rfl := Option.some.inj h
  exact ⟨[(0, 205)], _, rfl, (by repeat (first | exact trivial | exact rfl | (refine And.intro ?_ ?_))), ⟨rfl, trivial⟩, rfl, rfl, rfl, rfl, rfl⟩

/- qcref1.Most -/
set_option maxRecDepth 100000 in
set_option maxHeartbeats 1000000 in
theorem qcref1_Most_ok (N : Nat) (a0 : (List Tl)) (a1 : St) (r : (Int × Int × Int)) (h : qcref1_Most N a0 a1 = some r) : Spec Try.prog 95 [] [.sl 4 (List.map eTl a0), .agg (eSt a1)] (.tup [.int r.1, .int r.2.1, .int r.2.2]) [] [] := by
  refine Spec.of tabOk Try.func95 rfl Try.ntmps95 (by kernel_rfl) rfl rfl rfl fun Γ hn => ?_
  unfold qcref1_Most at h
  refine COk.seqQ fun Q751 qn751 qx751 qr751 => ?_
  refine gor hn ?_
  refine qn751 _ _ ?_
  refine COk.seqQ fun Q752 qn752 qx752 qr752 => ?_
  refine gor hn ?_
  refine qn752 _ _ ?_
  refine COk.seqQ fun Q753 qn753 qx753 qr753 => ?_
  refine COk.seqQ fun Q754 qn754 qx754 qr754 => ?_
  refine gor hn ?_
  refine lenM (fun hl1 => ?_)
  refine qn754 _ _ ?_
  obtain ⟨o12, h13, h⟩ := bindM h
  refine COk.joinR (ι := { s : (Int × Int × Int) // o12 = s }) (fun s => [(7, .int s.1.1), (8, .int s.1.2.1), (9, .int s.1.2.2)]) (fun s => []) (fun Q1310 qn1310 qx1310 qr1310 => ?_) (by intro s; rw [hn]; rfl) ?_
  · refine COk.blkQ fun Q1311 qn1311 qe1311 qx1311 qr1311 => ?_
    refine COk.loopQ (ι := { q : ((List Tl) × Nat × Int × Int × Int) // q.1 = a0.drop q.2.1 ∧ qcref1_Most_l1 N a1 q.1 q.2.1 q.2.2.1 q.2.2.2.1 q.2.2.2.2 = some o12 }) (fun q => [(3, .ptr 3 0), (7, .int q.1.2.2.1), (8, .int q.1.2.2.2.1), (9, .int q.1.2.2.2.2), (14, .sl 4 (List.map eTl a0)), (15, .int (a0.length : Int)), (16, .int (q.1.2.1 : Int))]) (fun q => [(3, .box (eSt a1) 28)]) (fun q => q.1.1.length) ⟨(a0, 0, (-1 : Int), (0 : Int), (0 : Int)), rfl, h13⟩ [] ⟨⟨rfl, rfl, rfl, rfl, (by repeat (first | exact trivial | exact rfl | (refine And.intro ?_ ?_))), rfl, rfl, trivial⟩, ⟨rfl, trivial⟩, rfl, rfl⟩ (by intro q; rw [hn]; rfl) ?_
    rintro ⟨⟨rest_, k2, v3, v4, v5⟩, hd15, h13⟩ Q1312 qn1312 qx1312 qr1312
    replace hd15 : rest_ = a0.drop k2 := hd15
    rcases rest_ with _ | ⟨x17, rest14⟩
    · have hlt19 := restNil hd15
      replace h13 := (qcref1_Most_l1.eq_1 _ _ _ _ _ _).symm.trans h13
      refine COk.seqQ fun Q1313 qn1313 qx1313 qr1313 => ?_
      refine gor hn ?_
      refine qn1313 _ _ ?_
      refine COk.seqQ fun Q1314 qn1314 qx1314 qr1314 => ?_
      refine goc hn ?_
      refine bselF hlt19 ?_
      refine goe hn ?_
      refine qx1314 _ _ _ ?_
      refine qx1312 _ _ _ ?_
      refine qe1311 _ _ ?_
      refine qn1310 _ _ ?_
      obtain rfl := Option.some.inj h13
      refine EOk.done ?_
      exact ⟨⟨_, rfl⟩, [], trivial, ⟨⟨rfl, rfl, rfl, trivial⟩, trivial, rfl, rfl⟩⟩
    · obtain ⟨hx18, hd2, hlt19⟩ := restCons hd15
      replace h13 := (qcref1_Most_l1.eq_2 _ _ _ _ _ _ _ _).symm.trans h13
      refine COk.seqQ fun Q1315 qn1315 qx1315 qr1315 => ?_
      refine gor hn ?_
      refine qn1315 _ _ ?_
      refine COk.seqQ fun Q1316 qn1316 qx1316 qr1316 => ?_
      refine goc hn ?_
      refine bselT hlt19 ?_
      refine gok hn ?_
      refine qn1316 _ _ ?_
      refine COk.seqQ fun Q1317 qn1317 qx1317 qr1317 => ?_
      refine COk.blkQ fun Q1454 qn1454 qe1454 qx1454 qr1454 => ?_
      refine COk.seqQ fun Q1455 qn1455 qx1455 qr1455 => ?_
      refine gor hn ?_
      refine idxK hx18 ?_
      refine qn1455 _ _ ?_
      refine COk.seqQ fun Q1456 qn1456 qx1456 qr1456 => ?_
      refine gor hn ?_
      refine qn1456 _ _ ?_
      obtain ⟨o24, h23, h13⟩ := bindM h13
      refine COk.joinR (ι := { s : (Int × Int × Int) // o24 = s }) (fun s => [(3, .ptr 3 0), (7, .int s.1.1), (8, .int s.1.2.1), (9, .int s.1.2.2), (14, .sl 4 (List.map eTl a0)), (15, .int (a0.length : Int)), (16, .int (k2 : Int))]) (fun s => [(3, .box (eSt a1) 28)]) (fun Q1457 qn1457 qx1457 qr1457 => ?_) (by intro s; rw [hn]; rfl) ?_
      · refine goc hn ?_
        refine bselM h23 (fun hb25 h23 => ?_) (fun hb25 h23 => ?_)
        · refine COk.seqQ fun Q1458 qn1458 qx1458 qr1458 => ?_
          refine gor hn ?_
          refine lenM (fun hl26 => ?_)
          refine qn1458 _ _ ?_
          obtain ⟨o37, h38, h23⟩ := bindM h23
          refine COk.joinR (ι := { s : (Int × Int × Int) // o37 = s }) (fun s => [(3, .ptr 3 0), (7, .int s.1.1), (8, .int s.1.2.1), (9, .int s.1.2.2), (14, .sl 4 (List.map eTl a0)), (15, .int (a0.length : Int)), (16, .int (k2 : Int))]) (fun s => [(3, .box (eSt a1) 28)]) (fun Q1486 qn1486 qx1486 qr1486 => ?_) (by intro s; rw [hn]; rfl) ?_
          · refine COk.blkQ fun Q1487 qn1487 qe1487 qx1487 qr1487 => ?_
            refine COk.loopQ (ι := { q : ((List Ln) × Nat × Int × Int × Int) // q.1 = x17.classes.drop q.2.1 ∧ qcref1_Most_l2 N q.1 q.2.1 q.2.2.1 q.2.2.2.1 q.2.2.2.2 = some o37 }) (fun q => [(3, .ptr 3 0), (7, .int q.1.2.2.1), (8, .int q.1.2.2.2.1), (9, .int q.1.2.2.2.2), (14, .sl 4 (List.map eTl a0)), (15, .int (a0.length : Int)), (16, .int (k2 : Int)), (25, .sl 2 (List.map eLn x17.classes)), (26, .int (x17.classes.length : Int)), (27, .int (q.1.2.1 : Int))]) (fun q => [(3, .box (eSt a1) 28)]) (fun q => q.1.1.length) ⟨(x17.classes, 0, v3, v4, v5), rfl, h38⟩ [] ⟨⟨rfl, rfl, rfl, rfl, (by repeat (first | exact trivial | exact rfl | (refine And.intro ?_ ?_))), rfl, rfl, (by repeat (first | exact trivial | exact rfl | (refine And.intro ?_ ?_))), rfl, rfl, trivial⟩, ⟨rfl, trivial⟩, rfl, rfl⟩ (by intro q; rw [hn]; rfl) ?_
            rintro ⟨⟨rest_, k27, v28, v29, v30⟩, hd40, h38⟩ Q1488 qn1488 qx1488 qr1488
            replace hd40 : rest_ = x17.classes.drop k27 := hd40
            rcases rest_ with _ | ⟨x42, rest39⟩
            · have hlt44 := restNil hd40
              replace h38 := (qcref1_Most_l2.eq_1 _ _ _ _ _).symm.trans h38
              refine COk.seqQ fun Q1489 qn1489 qx1489 qr1489 => ?_
              refine gor hn ?_
              refine qn1489 _ _ ?_
              refine COk.seqQ fun Q1490 qn1490 qx1490 qr1490 => ?_
              refine goc hn ?_
              refine bselF hlt44 ?_
              refine goe hn ?_
              refine qx1490 _ _ _ ?_
              refine qx1488 _ _ _ ?_
              refine qe1487 _ _ ?_
              refine qn1486 _ _ ?_
              obtain rfl := Option.some.inj h38
              refine EOk.done ?_
              exact ⟨⟨_, rfl⟩, [], trivial, ⟨⟨rfl, rfl, rfl, rfl, (by repeat (first | exact trivial | exact rfl | (refine And.intro ?_ ?_))), rfl, rfl, trivial⟩, ⟨rfl, trivial⟩, rfl, rfl⟩⟩
            · obtain ⟨hx43, hd2, hlt44⟩ := restCons hd40
              replace h38 := (qcref1_Most_l2.eq_2 _ _ _ _ _ _ _).symm.trans h38
              refine COk.seqQ fun Q1491 qn1491 qx1491 qr1491 => ?_
              refine gor hn ?_
              refine qn1491 _ _ ?_
              refine COk.seqQ fun Q1492 qn1492 qx1492 qr1492 => ?_
              refine goc hn ?_
              refine bselT hlt44 ?_
              refine gok hn ?_
              refine qn1492 _ _ ?_
              refine COk.seqQ fun Q1493 qn1493 qx1493 qr1493 => ?_
              refine COk.blkQ fun Q1494 qn1494 qe1494 qx1494 qr1494 => ?_
              refine COk.seqQ fun Q1495 qn1495 qx1495 qr1495 => ?_
              refine gor hn ?_
              refine idxK hx43 ?_
              refine qn1495 _ _ ?_
              refine COk.seqQ fun Q1496 qn1496 qx1496 qr1496 => ?_
              refine gor hn ?_
              refine Or.inr ?_
              refine qn1496 _ _ ?_
              refine COk.seqQ fun Q1497 qn1497 qx1497 qr1497 => ?_
              obtain ⟨o47, h46, h38⟩ := bindM h38
              refine COk.joinR (ι := { s : Bool // o47 = s }) (fun s => [(3, .ptr 3 0), (7, .int v28), (8, .int v29), (9, .int (wr (v30 + x42.found))), (13, .ptr 13 0), (14, .sl 4 (List.map eTl a0)), (15, .int (a0.length : Int)), (16, .int (k2 : Int)), (25, .sl 2 (List.map eLn x17.classes)), (26, .int (x17.classes.length : Int)), (27, .int (k27 : Int)), (54, .bool s.1)]) (fun s => [(3, .box (eSt a1) 28), (13, .box (eLn x42) 86)]) (fun Q1498 qn1498 qx1498 qr1498 => ?_) (by intro s; rw [hn]; rfl) ?_
              · refine COk.sub (ts2 := [(3, .ptr 3 0), (7, .int v28), (8, .int v29), (9, .int (wr (v30 + x42.found))), (13, .ptr 13 0), (14, .sl 4 (List.map eTl a0)), (15, .int (a0.length : Int)), (16, .int (k2 : Int)), (25, .sl 2 (List.map eLn x17.classes)), (26, .int (x17.classes.length : Int)), (27, .int (k27 : Int))]) (os2 := [(3, .box (eSt a1) 28), (13, .box (eLn x42) 86)]) [] ⟨⟨rfl, rfl, rfl, rfl, rfl, (by repeat (first | exact trivial | exact rfl | (refine And.intro ?_ ?_))), rfl, rfl, (by repeat (first | exact trivial | exact rfl | (refine And.intro ?_ ?_))), rfl, rfl, trivial⟩, ⟨rfl, rfl, trivial⟩, rfl, rfl⟩ (by rw [hn]; rfl) ?_
                refine gor hn ?_
                refine bselM h46 (fun hb48 h46 => ?_) (fun hb48 h46 => ?_)
                · refine bselT hb48 ?_
                  refine bselT hb48 ?_
                  refine bselT hb48 ?_
                  refine bselT hb48 ?_
                  refine bselT hb48 ?_
                  refine bselT hb48 ?_
                  refine qn1498 _ _ ?_
                  obtain rfl := Option.some.inj h46
                  refine EOk.done ?_
                  exact ⟨⟨_, rfl⟩, [], trivial, ⟨⟨rfl, rfl, rfl, rfl, rfl, (by repeat (first | exact trivial | exact rfl | (refine And.intro ?_ ?_))), rfl, rfl, (by repeat (first | exact trivial | exact rfl | (refine And.intro ?_ ?_))), rfl, rfl, rfl, trivial⟩, ⟨rfl, rfl, trivial⟩, rfl, rfl⟩⟩
                · refine bselF hb48 ?_
                  refine bselF hb48 ?_
                  refine bselM h46 (fun hb49 h46 => ?_) (fun hb49 h46 => ?_)
                  · refine bselT hb49 ?_
                    refine bselT hb49 ?_
                    refine bselT hb49 ?_
                    refine bselF hb48 ?_
                    refine bselT hb49 ?_
                    refine bselF hb48 ?_
                    refine bselM h46 (fun hb50 h46 => ?_) (fun hb50 h46 => ?_)
                    · refine bselT hb50 ?_
                      refine bselT hb50 ?_
                      refine bselT hb50 ?_
                      refine bselF hb48 ?_
                      refine bselT hb50 ?_
                      refine bselF hb48 ?_
                      refine qn1498 _ _ ?_
                      obtain rfl := Option.some.inj h46
                      refine EOk.done ?_
                      exact ⟨⟨_, rfl⟩, [], trivial, ⟨⟨rfl, rfl, rfl, rfl, rfl, (by repeat (first | exact trivial | exact rfl | (refine And.intro ?_ ?_))), rfl, rfl, (by repeat (first | exact trivial | exact rfl | (refine And.intro ?_ ?_))), rfl, rfl, rfl, trivial⟩, ⟨rfl, rfl, trivial⟩, rfl, rfl⟩⟩
                    · refine bselF hb50 ?_
                      refine bselF hb50 ?_
                      refine bselF hb50 ?_
                      refine bselF hb48 ?_
                      refine bselF hb50 ?_
                      refine bselF hb48 ?_
                      refine qn1498 _ _ ?_
                      obtain rfl := Option.some.inj h46
                      refine EOk.done ?_
                      exact ⟨⟨_, rfl⟩, [], trivial, ⟨⟨rfl, rfl, rfl, rfl, rfl, (by repeat (first | exact trivial | exact rfl | (refine And.intro ?_ ?_))), rfl, rfl, (by repeat (first | exact trivial | exact rfl | (refine And.intro ?_ ?_))), rfl, rfl, rfl, trivial⟩, ⟨rfl, rfl, trivial⟩, rfl, rfl⟩⟩
                  · refine bselF hb49 ?_
                    refine bselF hb49 ?_
                    refine bselF hb49 ?_
                    refine bselF hb48 ?_
                    refine bselF hb49 ?_
                    refine bselF hb48 ?_
                    refine bselF hb48 ?_
                    refine bselF hb48 ?_
                    refine qn1498 _ _ ?_
                    obtain rfl := Option.some.inj h46
                    refine EOk.done ?_
                    exact ⟨⟨_, rfl⟩, [], trivial, ⟨⟨rfl, rfl, rfl, rfl, rfl, (by repeat (first | exact trivial | exact rfl | (refine And.intro ?_ ?_))), rfl, rfl, (by repeat (first | exact trivial | exact rfl | (refine And.intro ?_ ?_))), rfl, rfl, rfl, trivial⟩, ⟨rfl, rfl, trivial⟩, rfl, rfl⟩⟩
              rintro ⟨v45, hv_⟩
              replace hv_ := hv_.symm
              subst hv_
              refine qn1497 _ _ ?_
              obtain ⟨o54, h53, h38⟩ := bindM h38
              refine COk.joinR (ι := { s : (Int × Int) // o54 = s }) (fun s => [(3, .ptr 3 0), (7, .int s.1.1), (8, .int s.1.2), (9, .int (wr (v30 + x42.found))), (14, .sl 4 (List.map eTl a0)), (15, .int (a0.length : Int)), (16, .int (k2 : Int)), (25, .sl 2 (List.map eLn x17.classes)), (26, .int (x17.classes.length : Int)), (27, .int (k27 : Int))]) (fun s => [(3, .box (eSt a1) 28)]) (fun Q1499 qn1499 qx1499 qr1499 => ?_) (by intro s; rw [hn]; rfl) ?_
              · refine goc hn ?_
                refine bselM h53 (fun hb55 h53 => ?_) (fun hb55 h53 => ?_)
                · refine god hn (by kernel_rfl) ?_
                  refine qn1499 _ _ ?_
                  obtain rfl := Option.some.inj h53
                  refine EOk.done ?_
                  exact ⟨⟨_, rfl⟩, [], trivial, ⟨⟨rfl, rfl, rfl, rfl, (by repeat (first | exact trivial | exact rfl | (refine And.intro ?_ ?_))), rfl, rfl, (by repeat (first | exact trivial | exact rfl | (refine And.intro ?_ ?_))), rfl, rfl, trivial⟩, ⟨rfl, trivial⟩, rfl, rfl⟩⟩
                · refine gok hn ?_
                  refine qn1499 _ _ ?_
                  obtain rfl := Option.some.inj h53
                  refine EOk.done ?_
                  exact ⟨⟨_, rfl⟩, [], trivial, ⟨⟨rfl, rfl, rfl, rfl, (by repeat (first | exact trivial | exact rfl | (refine And.intro ?_ ?_))), rfl, rfl, (by repeat (first | exact trivial | exact rfl | (refine And.intro ?_ ?_))), rfl, rfl, trivial⟩, ⟨rfl, trivial⟩, rfl, rfl⟩⟩
              rintro ⟨⟨v51, v52⟩, rfl⟩
              refine qn1494 _ _ ?_
              refine qn1493 _ _ ?_
              refine gor hn ?_
              refine Or.inl (And.intro (inrK hx43 hl26) ?_)
              refine qn1488 _ _ ?_
              refine EOk.done ?_
              exact ⟨⟨(rest39, k27 + 1, v51, v52, (wr (v30 + x42.found))), hd2, h38⟩, [], by show rest39.length < rest39.length + 1; omega, ⟨⟨rfl, rfl, rfl, rfl, (by repeat (first | exact trivial | exact rfl | (refine And.intro ?_ ?_))), rfl, rfl, (by repeat (first | exact trivial | exact rfl | (refine And.intro ?_ ?_))), rfl, rfl, trivial⟩, ⟨rfl, trivial⟩, rfl, rfl⟩⟩
          rintro ⟨⟨v34, v35, v36⟩, rfl⟩
          refine qn1457 _ _ ?_
          obtain rfl := Option.some.inj h23
          refine EOk.done ?_
          exact ⟨⟨_, rfl⟩, [], trivial, ⟨⟨rfl, rfl, rfl, rfl, (by repeat (first | exact trivial | exact rfl | (refine And.intro ?_ ?_))), rfl, rfl, trivial⟩, ⟨rfl, trivial⟩, rfl, rfl⟩⟩
        · refine gok hn ?_
          refine qn1457 _ _ ?_
          obtain rfl := Option.some.inj h23
          refine EOk.done ?_
          exact ⟨⟨_, rfl⟩, [], trivial, ⟨⟨rfl, rfl, rfl, rfl, (by repeat (first | exact trivial | exact rfl | (refine And.intro ?_ ?_))), rfl, rfl, trivial⟩, ⟨rfl, trivial⟩, rfl, rfl⟩⟩
      rintro ⟨⟨v20, v21, v22⟩, rfl⟩
      refine qn1454 _ _ ?_
      refine qn1317 _ _ ?_
      refine gor hn ?_
      refine Or.inl (And.intro (inrK hx18 hl1) ?_)
      refine qn1312 _ _ ?_
      refine EOk.done ?_
      exact ⟨⟨(rest14, k2 + 1, v20, v21, v22), hd2, h13⟩, [], by show rest14.length < rest14.length + 1; omega, ⟨⟨rfl, rfl, rfl, rfl, (by repeat (first | exact trivial | exact rfl | (refine And.intro ?_ ?_))), rfl, rfl, trivial⟩, ⟨rfl, trivial⟩, rfl, rfl⟩⟩
  rintro ⟨⟨v9, v10, v11⟩, rfl⟩
  refine qn753 _ _ ?_
  refine COk.seqQ fun Q1500 qn1500 qx1500 qr1500 => ?_
  refine gor hn ?_
  refine qn1500 _ _ ?_
  refine got hn ?_
  obtain rfl := Option.some.inj h
  exact ⟨[], _, rfl, (by repeat (first | exact trivial | exact rfl | (refine And.intro ?_ ?_))), trivial, rfl, rfl, rfl, rfl, rfl⟩

/- qcref5.Site -/
set_option maxRecDepth 100000 in
set_option maxHeartbeats 1000000 in
theorem qcref5_Site_ok (N : Nat) (a0 : Wd) (a1 : (List Tl)) (a2 : St) (a3 : ByteArray) (a4 : Int) (r : Int) (h : qcref5_Site N a0 a1 a2 a3 a4 = some r) : Spec Try.prog 83 [] [.agg (eWd a0), .sl 4 (List.map eTl a1), .agg (eSt a2), .str a3, .int a4] (.int r) [] [] := by
  refine Spec.of tabOk Try.func83 rfl Try.ntmps83 (by kernel_rfl) rfl rfl rfl fun Γ hn => ?_
  unfold qcref5_Site at h
  refine COk.seqQ fun Q20 qn20 qx20 qr20 => ?_
  refine gor hn ?_
  refine qn20 _ _ ?_
  refine COk.seqQ fun Q21 qn21 qx21 qr21 => ?_
  refine gor hn ?_
  obtain ⟨r1, hr2, h⟩ := bindM h
  show CallOk Try.prog _ _ _ _
  refine CallOk.as (qcref1_Most_ok N a1 a2 r1 hr2) (by repeat (first | exact trivial | exact rfl | (refine And.intro ?_ ?_))) trivial rfl ?_
  refine qn21 _ _ ?_
  refine COk.seqQ fun Q22 qn22 qx22 qr22 => ?_
  refine COk.seqQ fun Q23 qn23 qx23 qr23 => ?_
  obtain ⟨o5, h4, h⟩ := bindM h
  refine COk.joinR (ι := { s : Bool // o5 = s }) (fun s => [(3, .str a3), (4, .int a4), (5, .ptr 5 0), (11, .int r1.1), (36, .bool s.1)]) (fun s => [(5, .box (eWd a0) 26)]) (fun Q24 qn24 qx24 qr24 => ?_) (by intro s; rw [hn]; rfl) ?_
  · refine COk.sub (ts2 := [(3, .str a3), (4, .int a4), (5, .ptr 5 0), (11, .int r1.1), (12, .int r1.2.1), (13, .int r1.2.2)]) (os2 := [(5, .box (eWd a0) 26)]) [] ⟨⟨rfl, rfl, rfl, rfl, rfl, rfl, trivial⟩, ⟨rfl, trivial⟩, rfl, rfl⟩ (by rw [hn]; rfl) ?_
    refine gor hn ?_
    refine bselM h4 (fun hb6 h4 => ?_) (fun hb6 h4 => ?_)
    · refine bselT hb6 ?_
      refine bselT hb6 ?_
      refine bselT hb6 ?_
      refine bselT hb6 ?_
      refine bselT hb6 ?_
      refine qn24 _ _ ?_
      obtain rfl := Option.some.inj h4
      refine EOk.done ?_
      exact ⟨⟨_, rfl⟩, [], trivial, ⟨⟨rfl, rfl, rfl, rfl, rfl, trivial⟩, ⟨rfl, trivial⟩, rfl, rfl⟩⟩
    · refine bselF hb6 ?_
      refine bselF hb6 ?_
      refine Or.inr ?_
      refine bselF hb6 ?_
      refine bselF hb6 ?_
      refine bselF hb6 ?_
      refine bselM h4 (fun hb7 h4 => ?_) (fun hb7 h4 => ?_)
      · refine bselT hb7 ?_
        refine bselT hb7 ?_
        refine qn24 _ _ ?_
        obtain rfl := Option.some.inj h4
        refine EOk.done ?_
        exact ⟨⟨_, rfl⟩, [], trivial, ⟨⟨rfl, rfl, rfl, rfl, rfl, trivial⟩, ⟨rfl, trivial⟩, rfl, rfl⟩⟩
      · refine bselF hb7 ?_
        refine bselF hb7 ?_
        refine qn24 _ _ ?_
        obtain rfl := Option.some.inj h4
        refine EOk.done ?_
        exact ⟨⟨_, rfl⟩, [], trivial, ⟨⟨rfl, rfl, rfl, rfl, rfl, trivial⟩, ⟨rfl, trivial⟩, rfl, rfl⟩⟩
  rintro ⟨v3, hv_⟩
  replace hv_ := hv_.symm
  subst hv_
  refine qn23 _ _ ?_
  refine goc hn ?_
  refine bselM h (fun hb8 h => ?_) (fun hb8 h => ?_)
  · refine COk.seqQ fun Q26 qn26 qx26 qr26 => ?_
    refine gor hn ?_
    refine qn26 _ _ ?_
    refine got hn ?_
    refine qr22 _ _ ?_
    obtain rfl := Option.some.inj h
    exact ⟨[], _, rfl, (by repeat (first | exact trivial | exact rfl | (refine And.intro ?_ ?_))), trivial, rfl, rfl, rfl, rfl, rfl⟩
  · refine gok hn ?_
    refine qn22 _ _ ?_
    refine COk.seqQ fun Q27 qn27 qx27 qr27 => ?_
    refine gor hn ?_
    obtain ⟨r9, hr10, h⟩ := bindM h
    show CallOk Try.prog _ _ _ _
    refine CallOk.as (qcref1_Find_ok N a0 r1.1 a3 r9 hr10) (by repeat (first | exact trivial | exact rfl | (refine And.intro ?_ ?_))) trivial rfl ?_
    refine qn27 _ _ ?_
    refine COk.seqQ fun Q28 qn28 qx28 qr28 => ?_
    refine COk.seqQ fun Q29 qn29 qx29 qr29 => ?_
    refine gor hn ?_
    refine qn29 _ _ ?_
    refine goc hn ?_
    refine bselM h (fun hb11 h => ?_) (fun hb11 h => ?_)
    · refine COk.seqQ fun Q31 qn31 qx31 qr31 => ?_
      refine gor hn ?_
      refine qn31 _ _ ?_
      refine got hn ?_
      refine qr28 _ _ ?_
      obtain rfl := Option.some.inj h
      exact ⟨[], _, rfl, (by repeat (first | exact trivial | exact rfl | (refine And.intro ?_ ?_))), trivial, rfl, rfl, rfl, rfl, rfl⟩
    · refine gok hn ?_
      refine qn28 _ _ ?_
      refine COk.seqQ fun Q32 qn32 qx32 qr32 => ?_
      refine COk.seqQ fun Q33 qn33 qx33 qr33 => ?_
      refine gor hn ?_
      obtain ⟨x12, hx13, h⟩ := bindM h
      refine idxM hx13 ?_
      obtain ⟨x14, hx15, h⟩ := bindM h
      refine idxM hx15 ?_
      refine qn33 _ _ ?_
      refine COk.seqQ fun Q34 qn34 qx34 qr34 => ?_
      obtain ⟨o18, h17, h⟩ := bindM h
      refine COk.joinR (ι := { s : Bool // o18 = s }) (fun s => [(11, .int r1.1), (63, .bool s.1)]) (fun s => []) (fun Q35 qn35 qx35 qr35 => ?_) (by intro s; rw [hn]; rfl) ?_
      · refine COk.sub (ts2 := [(4, .int a4), (11, .int r1.1), (16, .ptr 16 0)]) (os2 := [(16, .box (eMe x14) 64)]) [] ⟨⟨rfl, rfl, rfl, trivial⟩, ⟨rfl, trivial⟩, rfl, rfl⟩ (by rw [hn]; rfl) ?_
        refine gor hn ?_
        obtain ⟨r19, hr20, h17⟩ := bindM h17
        show CallOk Try.prog _ _ _ _
        refine CallOk.as (qcref5_Leaf_ok N x14 r19 hr20) (by repeat (first | exact trivial | exact rfl | (refine And.intro ?_ ?_))) trivial rfl ?_
        refine bselM h17 (fun hb21 h17 => ?_) (fun hb21 h17 => ?_)
        · refine bselT hb21 ?_
          refine bselT hb21 ?_
          refine bselT hb21 ?_
          refine bselT hb21 ?_
          refine qn35 _ _ ?_
          obtain rfl := Option.some.inj h17
          refine EOk.done ?_
          exact ⟨⟨_, rfl⟩, [], trivial, ⟨⟨rfl, rfl, trivial⟩, trivial, rfl, rfl⟩⟩
        · refine bselF hb21 ?_
          refine bselF hb21 ?_
          refine bselF hb21 ?_
          refine bselF hb21 ?_
          refine qn35 _ _ ?_
          obtain rfl := Option.some.inj h17
          refine EOk.done ?_
          exact ⟨⟨_, rfl⟩, [], trivial, ⟨⟨rfl, rfl, trivial⟩, trivial, rfl, rfl⟩⟩
      rintro ⟨v16, hv_⟩
      replace hv_ := hv_.symm
      subst hv_
      refine qn34 _ _ ?_
      refine goc hn ?_
      refine bselM h (fun hb22 h => ?_) (fun hb22 h => ?_)
      · refine COk.seqQ fun Q37 qn37 qx37 qr37 => ?_
        refine gor hn ?_
        refine qn37 _ _ ?_
        refine got hn ?_
        refine qr32 _ _ ?_
        obtain rfl := Option.some.inj h
        exact ⟨[], _, rfl, (by repeat (first | exact trivial | exact rfl | (refine And.intro ?_ ?_))), trivial, rfl, rfl, rfl, rfl, rfl⟩
      · refine gok hn ?_
        refine qn32 _ _ ?_
        refine COk.seqQ fun Q38 qn38 qx38 qr38 => ?_
        refine gor hn ?_
        refine qn38 _ _ ?_
        refine got hn ?_
        obtain rfl := Option.some.inj h
        exact ⟨[], _, rfl, (by repeat (first | exact trivial | exact rfl | (refine And.intro ?_ ?_))), trivial, rfl, rfl, rfl, rfl, rfl⟩
end Go.Proofs.Ytoceeiamcfdnlaa
