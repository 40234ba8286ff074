/- Walks after the mirrors. Printed by mir.py. -/
import Derived.Test.YtoceeiamcfdnlaaWk2
namespace Go.Proofs.Ytoceeiamcfdnlaa
open Go.RowKit
set_option linter.unusedVariables false
/- qcref5.Fast -/
set_option maxRecDepth 100000 in
set_option maxHeartbeats 1000000 in
theorem qcref5_Fast_ok (N : Nat) (a0 : Wd) (a1 : Int) (a2 : Int) (a3 : (List Int)) (r : (Fs × Bool)) (h : qcref5_Fast N a0 a1 a2 a3 = some r) : Spec Try.prog 25 [] [.agg (eWd a0), .int a1, .int a2, .sl 1 (List.map eInt a3)] (.tup [.agg (eFs r.1), .bool r.2]) [] [] := by
  refine Spec.of tabOk Try.func25 rfl Try.ntmps25 (by kernel_rfl) rfl rfl rfl fun Γ hn => ?_
  unfold qcref5_Fast at h
  refine COk.seqQ fun Q1384 qn1384 qx1384 qr1384 => ?_
  refine gor hn ?_
  refine qn1384 _ _ ?_
  refine COk.seqQ fun Q1385 qn1385 qx1385 qr1385 => ?_
  refine COk.seqQ fun Q1386 qn1386 qx1386 qr1386 => ?_
  obtain ⟨o3, h2, h⟩ := bindM h
  refine COk.joinR (ι := { s : Bool // o3 = s }) (fun s => [(1, .int a1), (2, .int a2), (3, .sl 1 (List.map eInt a3)), (4, .ptr 4 0), (8, .ptr 8 0), (51, .bool s.1)]) (fun s => [(4, .box (eWd a0) 26), (8, .box [.int (0 : Int), .str ByteArray.empty, .int (0 : Int), .int (0 : Int), .nilsl] 53)]) (fun Q1387 qn1387 qx1387 qr1387 => ?_) (by intro s; rw [hn]; rfl) ?_
  · refine gor hn ?_
    refine bselM h2 (fun hb4 h2 => ?_) (fun hb4 h2 => ?_)
    · refine bselT hb4 ?_
      refine bselT hb4 ?_
      refine bselT hb4 ?_
      refine bselT hb4 ?_
      refine bselT hb4 ?_
      refine qn1387 _ _ ?_
      obtain rfl := Option.some.inj h2
      refine EOk.done ?_
      exact ⟨⟨_, rfl⟩, [], trivial, ⟨⟨rfl, rfl, (by repeat (first | exact trivial | exact rfl | (refine And.intro ?_ ?_))), rfl, rfl, rfl, trivial⟩, ⟨rfl, rfl, trivial⟩, rfl, rfl⟩⟩
    · refine bselF hb4 ?_
      refine bselF hb4 ?_
      refine bselF hb4 ?_
      refine lenM (fun hl5 => ?_)
      refine bselF hb4 ?_
      refine bselF hb4 ?_
      refine bselM h2 (fun hb6 h2 => ?_) (fun hb6 h2 => ?_)
      · refine bselT hb6 ?_
        refine bselT hb6 ?_
        refine qn1387 _ _ ?_
        obtain rfl := Option.some.inj h2
        refine EOk.done ?_
        exact ⟨⟨_, rfl⟩, [], trivial, ⟨⟨rfl, rfl, (by repeat (first | exact trivial | exact rfl | (refine And.intro ?_ ?_))), rfl, rfl, rfl, trivial⟩, ⟨rfl, rfl, trivial⟩, rfl, rfl⟩⟩
      · refine bselF hb6 ?_
        refine bselF hb6 ?_
        refine bselM h2 (fun hb7 h2 => ?_) (fun hb7 h2 => ?_)
        · refine bselT hb7 ?_
          refine bselT hb7 ?_
          refine bselT hb7 ?_
          refine bselT hb7 ?_
          refine bselT hb7 ?_
          refine bselT hb7 ?_
          refine bselT hb7 ?_
          refine bselT hb7 ?_
          refine bselT hb7 ?_
          refine qn1387 _ _ ?_
          obtain rfl := Option.some.inj h2
          refine EOk.done ?_
          exact ⟨⟨_, rfl⟩, [], trivial, ⟨⟨rfl, rfl, (by repeat (first | exact trivial | exact rfl | (refine And.intro ?_ ?_))), rfl, rfl, rfl, trivial⟩, ⟨rfl, rfl, trivial⟩, rfl, rfl⟩⟩
        · refine bselF hb7 ?_
          refine bselF hb7 ?_
          refine bselF hb7 ?_
          refine bselF hb7 ?_
          obtain ⟨x8, hx9, h2⟩ := bindM h2
          refine idxM hx9 ?_
          refine bselF hb7 ?_
          refine bselF hb7 ?_
          refine bselF hb7 ?_
          refine lenM (fun hl10 => ?_)
          refine bselF hb7 ?_
          refine bselF hb7 ?_
          refine qn1387 _ _ ?_
          obtain rfl := Option.some.inj h2
          refine EOk.done ?_
          exact ⟨⟨_, rfl⟩, [], trivial, ⟨⟨rfl, rfl, (by repeat (first | exact trivial | exact rfl | (refine And.intro ?_ ?_))), rfl, rfl, rfl, trivial⟩, ⟨rfl, rfl, trivial⟩, rfl, rfl⟩⟩
  rintro ⟨v1, hv_⟩
  replace hv_ := hv_.symm
  subst hv_
  refine qn1386 _ _ ?_
  refine goc hn ?_
  refine bselM h (fun hb11 h => ?_) (fun hb11 h => ?_)
  · refine COk.seqQ fun Q1389 qn1389 qx1389 qr1389 => ?_
    refine gor hn ?_
    refine qn1389 _ _ ?_
    refine got hn ?_
    refine qr1385 _ _ ?_
    obtain rfl := Option.some.inj h
    exact ⟨[], _, rfl, (by repeat (first | exact trivial | exact rfl | (refine And.intro ?_ ?_))), trivial, rfl, rfl, rfl, rfl, rfl⟩
  · refine gok hn ?_
    refine qn1385 _ _ ?_
    refine COk.seqQ fun Q1390 qn1390 qx1390 qr1390 => ?_
    refine gor hn ?_
    obtain ⟨x12, hx13, h⟩ := bindM h
    refine idxM hx13 ?_
    obtain ⟨x14, hx15, h⟩ := bindM h
    refine idxM hx15 ?_
    refine qn1390 _ _ ?_
    refine COk.seqQ fun Q1391 qn1391 qx1391 qr1391 => ?_
    refine gor hn ?_
    refine qn1391 _ _ ?_
    refine COk.seqQ fun Q1392 qn1392 qx1392 qr1392 => ?_
    refine COk.sub (ts2 := [(1, .int a1), (3, .sl 1 (List.map eInt a3)), (4, .ptr 4 0), (8, .ptr 8 0), (10, .ptr 10 0), (11, .int x14.temps), (12, .int (0 : Int))]) (os2 := [(4, .box (eWd a0) 26), (8, .box [.int (0 : Int), .str ByteArray.empty, .int (0 : Int), .int (0 : Int), .nilsl] 53), (10, .box (eMe x14) 64)]) [] ⟨⟨rfl, (by repeat (first | exact trivial | exact rfl | (refine And.intro ?_ ?_))), rfl, rfl, rfl, rfl, rfl, trivial⟩, ⟨rfl, rfl, rfl, trivial⟩, rfl, rfl⟩ (by rw [hn]; rfl) ?_
    refine gor hn ?_
    refine qn1392 _ _ ?_
    refine COk.seqQ fun Q1393 qn1393 qx1393 qr1393 => ?_
    refine gor hn ?_
    refine qn1393 _ _ ?_
    refine COk.seqQ fun Q1394 qn1394 qx1394 qr1394 => ?_
    refine gor hn ?_
    refine qn1394 _ _ ?_
    refine COk.seqQ fun Q1395 qn1395 qx1395 qr1395 => ?_
    refine COk.seqQ fun Q1396 qn1396 qx1396 qr1396 => ?_
    refine gor hn ?_
    refine lenM (fun hl16 => ?_)
    refine qn1396 _ _ ?_
    refine COk.nilrow 13 213 1 51 rfl rfl rfl ?_
    refine COk.nilrow 14 214 1 3 rfl rfl rfl ?_
    obtain ⟨o32, h33, h⟩ := bindM h
    refine COk.joinR (ι := { s : (Int × (List (List Ins)) × (List Int) × (List (Int × Bool))) // o32 = s }) (fun s => [(1, .int a1), (4, .ptr 4 0), (8, .ptr 8 0), (10, .ptr 10 0), (11, .int s.1.1), (13, .own 213), (14, .own 214), (15, .mp 64)]) (fun s => [(4, .box (eWd a0) 26), (8, .box [.int (0 : Int), .str ByteArray.empty, .int (0 : Int), .int (0 : Int), .nilsl] 53), (10, .box (eMe x14) 64), (64, .mapo (List.map mInt s.1.2.2.2)), (213, .row 1 (List.map (eSl 5 eIns) s.1.2.1) 51), (214, .row 1 (List.map eInt s.1.2.2.1) 3)]) (fun Q1897 qn1897 qx1897 qr1897 => ?_) (by intro s; rw [hn]; rfl) ?_
    · refine COk.blkQ fun Q1898 qn1898 qe1898 qx1898 qr1898 => ?_
      refine COk.loopQ (ι := { q : ((List Ins) × Nat × Int × Int × (List (List Ins)) × (List Int) × (List (Int × Bool))) // q.1 = x14.code.drop q.2.1 ∧ qcref5_Fast_l1 N a0 a3 x14 q.1 q.2.1 q.2.2.1 q.2.2.2.1 q.2.2.2.2.1 q.2.2.2.2.2.1 q.2.2.2.2.2.2 = some o32 }) (fun q => [(1, .int a1), (3, .sl 1 (List.map eInt a3)), (4, .ptr 4 0), (8, .ptr 8 0), (10, .ptr 10 0), (11, .int q.1.2.2.1), (12, .int q.1.2.2.2.1), (13, .own 213), (14, .own 214), (15, .mp 64), (66, .sl 5 (List.map eIns x14.code)), (67, .int (x14.code.length : Int)), (68, .int (q.1.2.1 : Int))]) (fun q => [(4, .box (eWd a0) 26), (8, .box [.int (0 : Int), .str ByteArray.empty, .int (0 : Int), .int (0 : Int), .nilsl] 53), (10, .box (eMe x14) 64), (64, .mapo (List.map mInt q.1.2.2.2.2.2.2)), (213, .row 1 (List.map (eSl 5 eIns) q.1.2.2.2.2.1) 51), (214, .row 1 (List.map eInt q.1.2.2.2.2.2.1) 3)]) (fun q => q.1.1.length) ⟨(x14.code, 0, x14.temps, (0 : Int), ([] : List (List Ins)), ([] : List Int), ([] : (List (Int × Bool)))), rfl, h33⟩ [] ⟨⟨rfl, (by repeat (first | exact trivial | exact rfl | (refine And.intro ?_ ?_))), rfl, rfl, rfl, rfl, rfl, rfl, rfl, rfl, (by repeat (first | exact trivial | exact rfl | (refine And.intro ?_ ?_))), rfl, rfl, trivial⟩, ⟨rfl, rfl, rfl, rfl, rfl, rfl, trivial⟩, rfl, rfl⟩ (by intro q; rw [hn]; rfl) ?_
      rintro ⟨⟨rest_, k17, v18, v19, v20, v21, v22⟩, hd35, h33⟩ Q1899 qn1899 qx1899 qr1899
      replace hd35 : rest_ = x14.code.drop k17 := hd35
      rcases rest_ with _ | ⟨x37, rest34⟩
      · have hlt39 := restNil hd35
        replace h33 := (qcref5_Fast_l1.eq_1 _ _ _ _ _ _ _ _ _ _).symm.trans h33
        refine COk.seqQ fun Q1900 qn1900 qx1900 qr1900 => ?_
        refine gor hn ?_
        refine qn1900 _ _ ?_
        refine COk.seqQ fun Q1901 qn1901 qx1901 qr1901 => ?_
        refine goc hn ?_
        refine bselF hlt39 ?_
        refine goe hn ?_
        refine qx1901 _ _ _ ?_
        refine qx1899 _ _ _ ?_
        refine qe1898 _ _ ?_
        refine qn1897 _ _ ?_
        obtain rfl := Option.some.inj h33
        refine EOk.done ?_
        exact ⟨⟨_, rfl⟩, [], trivial, ⟨⟨rfl, rfl, rfl, rfl, rfl, rfl, rfl, rfl, trivial⟩, ⟨rfl, rfl, rfl, rfl, rfl, rfl, trivial⟩, rfl, rfl⟩⟩
      · obtain ⟨hx38, hd2, hlt39⟩ := restCons hd35
        replace h33 := (qcref5_Fast_l1.eq_2 _ _ _ _ _ _ _ _ _ _ _ _).symm.trans h33
        refine COk.seqQ fun Q1902 qn1902 qx1902 qr1902 => ?_
        refine gor hn ?_
        refine qn1902 _ _ ?_
        refine COk.seqQ fun Q1903 qn1903 qx1903 qr1903 => ?_
        refine goc hn ?_
        refine bselT hlt39 ?_
        refine gok hn ?_
        refine qn1903 _ _ ?_
        refine COk.seqQ fun Q1904 qn1904 qx1904 qr1904 => ?_
        refine COk.blkQ fun Q2005 qn2005 qe2005 qx2005 qr2005 => ?_
        refine COk.seqQ fun Q2006 qn2006 qx2006 qr2006 => ?_
        refine gor hn ?_
        refine idxK hx38 ?_
        refine qn2006 _ _ ?_
        refine COk.seqQ fun Q2007 qn2007 qx2007 qr2007 => ?_
        refine COk.sub (ts2 := [(1, .int a1), (3, .sl 1 (List.map eInt a3)), (4, .ptr 4 0), (8, .ptr 8 0), (10, .ptr 10 0), (11, .int v18), (12, .int v19), (13, .own 213), (14, .own 214), (15, .mp 64), (16, .int (k17 : Int)), (17, .ptr 17 0), (66, .sl 5 (List.map eIns x14.code)), (67, .int (x14.code.length : Int)), (68, .int (k17 : Int))]) (os2 := [(4, .box (eWd a0) 26), (8, .box [.int (0 : Int), .str ByteArray.empty, .int (0 : Int), .int (0 : Int), .nilsl] 53), (10, .box (eMe x14) 64), (17, .box (eIns x37) 62), (64, .mapo (List.map mInt v22)), (213, .row 1 (List.map (eSl 5 eIns) v20) 51), (214, .row 1 (List.map eInt v21) 3)]) [] ⟨⟨rfl, (by repeat (first | exact trivial | exact rfl | (refine And.intro ?_ ?_))), rfl, rfl, rfl, rfl, rfl, rfl, rfl, rfl, rfl, rfl, (by repeat (first | exact trivial | exact rfl | (refine And.intro ?_ ?_))), rfl, rfl, trivial⟩, ⟨rfl, rfl, rfl, rfl, rfl, rfl, rfl, trivial⟩, rfl, rfl⟩ (by rw [hn]; rfl) ?_
        refine gor hn ?_
        refine Exists.intro (List.map eInt [v19]) (And.intro (by repeat (first | exact trivial | exact rfl | (refine And.intro ?_ ?_))) ?_)
        obtain ⟨hg40, h33⟩ := guardM h33
        refine appM (l2 := [v19]) hg40 (leLs_refl _) ?_
        refine qn2007 _ _ ?_
        refine COk.seqQ fun Q2008 qn2008 qx2008 qr2008 => ?_
        refine COk.sub (ts2 := [(1, .int a1), (3, .sl 1 (List.map eInt a3)), (4, .ptr 4 0), (8, .ptr 8 0), (10, .ptr 10 0), (11, .int v18), (12, .int v19), (13, .own 213), (14, .own 76), (15, .mp 64), (16, .int (k17 : Int)), (17, .ptr 17 0), (66, .sl 5 (List.map eIns x14.code)), (67, .int (x14.code.length : Int)), (68, .int (k17 : Int))]) (os2 := [(4, .box (eWd a0) 26), (8, .box [.int (0 : Int), .str ByteArray.empty, .int (0 : Int), .int (0 : Int), .nilsl] 53), (10, .box (eMe x14) 64), (17, .box (eIns x37) 62), (64, .mapo (List.map mInt v22)), (76, .row 1 (List.map eInt (v21 ++ [v19])) 3), (213, .row 1 (List.map (eSl 5 eIns) v20) 51)]) [] ⟨⟨rfl, (by repeat (first | exact trivial | exact rfl | (refine And.intro ?_ ?_))), rfl, rfl, rfl, rfl, rfl, rfl, rfl, rfl, rfl, rfl, (by repeat (first | exact trivial | exact rfl | (refine And.intro ?_ ?_))), rfl, rfl, trivial⟩, ⟨rfl, rfl, rfl, rfl, rfl, rfl, rfl, trivial⟩, rfl, rfl⟩ (by rw [hn]; rfl) ?_
        refine gor hn ?_
        refine Exists.intro (List.map eIns [x37]) (And.intro (by repeat (first | exact trivial | exact rfl | (refine And.intro ?_ ?_))) ?_)
        refine qn2008 _ _ ?_
        refine COk.seqQ fun Q2009 qn2009 qx2009 qr2009 => ?_
        refine COk.seqQ fun Q2010 qn2010 qx2010 qr2010 => ?_
        refine COk.sub (ts2 := [(1, .int a1), (3, .sl 1 (List.map eInt a3)), (4, .ptr 4 0), (8, .ptr 8 0), (10, .ptr 10 0), (11, .int v18), (12, .int v19), (13, .own 213), (14, .own 76), (15, .mp 64), (16, .int (k17 : Int)), (17, .ptr 17 0), (18, .own 78), (66, .sl 5 (List.map eIns x14.code)), (67, .int (x14.code.length : Int)), (68, .int (k17 : Int))]) (os2 := [(4, .box (eWd a0) 26), (8, .box [.int (0 : Int), .str ByteArray.empty, .int (0 : Int), .int (0 : Int), .nilsl] 53), (10, .box (eMe x14) 64), (17, .box (eIns x37) 62), (64, .mapo (List.map mInt v22)), (76, .row 1 (List.map eInt (v21 ++ [v19])) 3), (78, .row 5 (List.map eIns [x37]) 62), (213, .row 1 (List.map (eSl 5 eIns) v20) 51)]) [] ⟨⟨rfl, (by repeat (first | exact trivial | exact rfl | (refine And.intro ?_ ?_))), rfl, rfl, rfl, rfl, rfl, rfl, rfl, rfl, rfl, rfl, rfl, (by repeat (first | exact trivial | exact rfl | (refine And.intro ?_ ?_))), rfl, rfl, trivial⟩, ⟨rfl, rfl, rfl, rfl, rfl, rfl, rfl, rfl, trivial⟩, rfl, rfl⟩ (by rw [hn]; rfl) ?_
        refine gor hn ?_
        refine qn2010 _ _ ?_
        obtain ⟨o45, h44, h33⟩ := bindM h33
        refine COk.joinR (ι := { s : (Int × (List (Int × Bool)) × (List Ins)) // o45 = s }) (fun s => [(1, .int a1), (3, .sl 1 (List.map eInt a3)), (4, .ptr 4 0), (8, .ptr 8 0), (10, .ptr 10 0), (11, .int s.1.1), (12, .int v19), (13, .own 213), (14, .own 76), (15, .mp 64), (18, .own 169), (66, .sl 5 (List.map eIns x14.code)), (67, .int (x14.code.length : Int)), (68, .int (k17 : Int))]) (fun s => [(4, .box (eWd a0) 26), (8, .box [.int (0 : Int), .str ByteArray.empty, .int (0 : Int), .int (0 : Int), .nilsl] 53), (10, .box (eMe x14) 64), (64, .mapo (List.map mInt s.1.2.1)), (76, .row 1 (List.map eInt (v21 ++ [v19])) 3), (169, .row 5 (List.map eIns s.1.2.2) 62), (213, .row 1 (List.map (eSl 5 eIns) v20) 51)]) (fun Q2011 qn2011 qx2011 qr2011 => ?_) (by intro s; rw [hn]; rfl) ?_
        · refine goc hn ?_
          refine bselM h44 (fun hb46 h44 => ?_) (fun hb46 h44 => ?_)
          · refine COk.seqQ fun Q2012 qn2012 qx2012 qr2012 => ?_
            refine COk.sub (ts2 := [(1, .int a1), (3, .sl 1 (List.map eInt a3)), (4, .ptr 4 0), (8, .ptr 8 0), (10, .ptr 10 0), (11, .int v18), (12, .int v19), (13, .own 213), (14, .own 76), (15, .mp 64), (16, .int (k17 : Int)), (17, .ptr 17 0), (18, .own 78), (66, .sl 5 (List.map eIns x14.code)), (67, .int (x14.code.length : Int)), (68, .int (k17 : Int))]) (os2 := [(4, .box (eWd a0) 26), (8, .box [.int (0 : Int), .str ByteArray.empty, .int (0 : Int), .int (0 : Int), .nilsl] 53), (10, .box (eMe x14) 64), (17, .box (eIns x37) 62), (64, .mapo (List.map mInt v22)), (76, .row 1 (List.map eInt (v21 ++ [v19])) 3), (78, .row 5 (List.map eIns [x37]) 62), (213, .row 1 (List.map (eSl 5 eIns) v20) 51)]) [] ⟨⟨rfl, (by repeat (first | exact trivial | exact rfl | (refine And.intro ?_ ?_))), rfl, rfl, rfl, rfl, rfl, rfl, rfl, rfl, rfl, rfl, rfl, (by repeat (first | exact trivial | exact rfl | (refine And.intro ?_ ?_))), rfl, rfl, trivial⟩, ⟨rfl, rfl, rfl, rfl, rfl, rfl, rfl, rfl, trivial⟩, rfl, rfl⟩ (by rw [hn]; rfl) ?_
            refine gor hn ?_
            obtain ⟨x47, hx48, h44⟩ := bindM h44
            refine ownM hx48 ?_
            refine ldM (nthO_some hx48).2 ?_
            refine Exists.intro (List.map eIns ([x37].set ((0 : Int).toNat) (⟨x47.op, x47.a, x47.b, (k17 : Int), x47.name⟩ : Ins))) (And.intro (leLs_set (nthO_some hx48).2 (by repeat (first | exact trivial | exact rfl | (refine And.intro ?_ ?_)))) ?_)
            refine qn2012 _ _ ?_
            refine COk.seqQ fun Q2013 qn2013 qx2013 qr2013 => ?_
            obtain ⟨o51, h50, h44⟩ := bindM h44
            refine COk.joinR (ι := { s : Bool // o51 = s }) (fun s => [(1, .int a1), (3, .sl 1 (List.map eInt a3)), (4, .ptr 4 0), (8, .ptr 8 0), (10, .ptr 10 0), (11, .int v18), (12, .int v19), (13, .own 213), (14, .own 76), (15, .mp 64), (16, .int (k17 : Int)), (17, .ptr 17 0), (18, .own 78), (66, .sl 5 (List.map eIns x14.code)), (67, .int (x14.code.length : Int)), (68, .int (k17 : Int)), (96, .bool s.1)]) (fun s => [(4, .box (eWd a0) 26), (8, .box [.int (0 : Int), .str ByteArray.empty, .int (0 : Int), .int (0 : Int), .nilsl] 53), (10, .box (eMe x14) 64), (17, .box (eIns x37) 62), (64, .mapo (List.map mInt v22)), (76, .row 1 (List.map eInt (v21 ++ [v19])) 3), (78, .row 5 (List.map eIns ([x37].set ((0 : Int).toNat) (⟨x47.op, x47.a, x47.b, (k17 : Int), x47.name⟩ : Ins))) 62), (213, .row 1 (List.map (eSl 5 eIns) v20) 51)]) (fun Q2014 qn2014 qx2014 qr2014 => ?_) (by intro s; rw [hn]; rfl) ?_
            · refine COk.sub (ts2 := [(1, .int a1), (3, .sl 1 (List.map eInt a3)), (4, .ptr 4 0), (8, .ptr 8 0), (10, .ptr 10 0), (11, .int v18), (12, .int v19), (13, .own 213), (14, .own 76), (15, .mp 64), (16, .int (k17 : Int)), (17, .ptr 17 0), (18, .own 78), (66, .sl 5 (List.map eIns x14.code)), (67, .int (x14.code.length : Int)), (68, .int (k17 : Int))]) (os2 := [(4, .box (eWd a0) 26), (8, .box [.int (0 : Int), .str ByteArray.empty, .int (0 : Int), .int (0 : Int), .nilsl] 53), (10, .box (eMe x14) 64), (17, .box (eIns x37) 62), (64, .mapo (List.map mInt v22)), (76, .row 1 (List.map eInt (v21 ++ [v19])) 3), (78, .row 5 (List.map eIns ([x37].set ((0 : Int).toNat) (⟨x47.op, x47.a, x47.b, (k17 : Int), x47.name⟩ : Ins))) 62), (213, .row 1 (List.map (eSl 5 eIns) v20) 51)]) [] ⟨⟨rfl, (by repeat (first | exact trivial | exact rfl | (refine And.intro ?_ ?_))), rfl, rfl, rfl, rfl, rfl, rfl, rfl, rfl, rfl, rfl, rfl, (by repeat (first | exact trivial | exact rfl | (refine And.intro ?_ ?_))), rfl, rfl, trivial⟩, ⟨rfl, rfl, rfl, rfl, rfl, rfl, rfl, rfl, trivial⟩, rfl, rfl⟩ (by rw [hn]; rfl) ?_
              refine gor hn ?_
              refine lenM (fun hl52 => ?_)
              refine bselM h50 (fun hb53 h50 => ?_) (fun hb53 h50 => ?_)
              · refine bselT hb53 ?_
                refine bselT hb53 ?_
                obtain ⟨x54, hx55, h50⟩ := bindM h50
                refine idxM hx55 ?_
                refine bselT hb53 ?_
                refine bselT hb53 ?_
                refine bselT hb53 ?_
                refine qn2014 _ _ ?_
                obtain rfl := Option.some.inj h50
                refine EOk.done ?_
                exact ⟨⟨_, rfl⟩, [], trivial, ⟨⟨rfl, (by repeat (first | exact trivial | exact rfl | (refine And.intro ?_ ?_))), rfl, rfl, rfl, rfl, rfl, rfl, rfl, rfl, rfl, rfl, rfl, (by repeat (first | exact trivial | exact rfl | (refine And.intro ?_ ?_))), rfl, rfl, rfl, trivial⟩, ⟨rfl, rfl, rfl, rfl, rfl, rfl, rfl, rfl, trivial⟩, rfl, rfl⟩⟩
              · refine bselF hb53 ?_
                refine bselF hb53 ?_
                refine bselF hb53 ?_
                refine bselF hb53 ?_
                refine bselF hb53 ?_
                refine qn2014 _ _ ?_
                obtain rfl := Option.some.inj h50
                refine EOk.done ?_
                exact ⟨⟨_, rfl⟩, [], trivial, ⟨⟨rfl, (by repeat (first | exact trivial | exact rfl | (refine And.intro ?_ ?_))), rfl, rfl, rfl, rfl, rfl, rfl, rfl, rfl, rfl, rfl, rfl, (by repeat (first | exact trivial | exact rfl | (refine And.intro ?_ ?_))), rfl, rfl, rfl, trivial⟩, ⟨rfl, rfl, rfl, rfl, rfl, rfl, rfl, rfl, trivial⟩, rfl, rfl⟩⟩
            rintro ⟨v49, hv_⟩
            replace hv_ := hv_.symm
            subst hv_
            refine qn2013 _ _ ?_
            obtain ⟨o60, h59, h44⟩ := bindM h44
            refine COk.joinR (ι := { s : (Int × (List (Int × Bool)) × (List Ins)) // o60 = s }) (fun s => [(1, .int a1), (3, .sl 1 (List.map eInt a3)), (4, .ptr 4 0), (8, .ptr 8 0), (10, .ptr 10 0), (11, .int s.1.1), (12, .int v19), (13, .own 213), (14, .own 76), (15, .mp 64), (18, .own 169), (66, .sl 5 (List.map eIns x14.code)), (67, .int (x14.code.length : Int)), (68, .int (k17 : Int))]) (fun s => [(4, .box (eWd a0) 26), (8, .box [.int (0 : Int), .str ByteArray.empty, .int (0 : Int), .int (0 : Int), .nilsl] 53), (10, .box (eMe x14) 64), (64, .mapo (List.map mInt s.1.2.1)), (76, .row 1 (List.map eInt (v21 ++ [v19])) 3), (169, .row 5 (List.map eIns s.1.2.2) 62), (213, .row 1 (List.map (eSl 5 eIns) v20) 51)]) (fun Q2015 qn2015 qx2015 qr2015 => ?_) (by intro s; rw [hn]; rfl) ?_
            · refine goc hn ?_
              refine bselM h59 (fun hb61 h59 => ?_) (fun hb61 h59 => ?_)
              · refine COk.seqQ fun Q2016 qn2016 qx2016 qr2016 => ?_
                refine COk.sub (ts2 := [(1, .int a1), (3, .sl 1 (List.map eInt a3)), (4, .ptr 4 0), (8, .ptr 8 0), (10, .ptr 10 0), (11, .int v18), (12, .int v19), (13, .own 213), (14, .own 76), (15, .mp 64), (16, .int (k17 : Int)), (17, .ptr 17 0), (18, .own 78), (66, .sl 5 (List.map eIns x14.code)), (67, .int (x14.code.length : Int)), (68, .int (k17 : Int))]) (os2 := [(4, .box (eWd a0) 26), (8, .box [.int (0 : Int), .str ByteArray.empty, .int (0 : Int), .int (0 : Int), .nilsl] 53), (10, .box (eMe x14) 64), (17, .box (eIns x37) 62), (64, .mapo (List.map mInt v22)), (76, .row 1 (List.map eInt (v21 ++ [v19])) 3), (78, .row 5 (List.map eIns ([x37].set ((0 : Int).toNat) (⟨x47.op, x47.a, x47.b, (k17 : Int), x47.name⟩ : Ins))) 62), (213, .row 1 (List.map (eSl 5 eIns) v20) 51)]) [] ⟨⟨rfl, (by repeat (first | exact trivial | exact rfl | (refine And.intro ?_ ?_))), rfl, rfl, rfl, rfl, rfl, rfl, rfl, rfl, rfl, rfl, rfl, (by repeat (first | exact trivial | exact rfl | (refine And.intro ?_ ?_))), rfl, rfl, trivial⟩, ⟨rfl, rfl, rfl, rfl, rfl, rfl, rfl, rfl, trivial⟩, rfl, rfl⟩ (by rw [hn]; rfl) ?_
                refine god hn (by kernel_rfl) ?_
                obtain ⟨x62, hx63, h59⟩ := bindM h59
                refine idxM hx63 ?_
                obtain ⟨r64, hr65, h59⟩ := bindM h59
                show CallOk Try.prog _ _ _ _
                refine CallOk.as (qcref1_Find_ok N a0 x62 x37.name r64 hr65) (by repeat (first | exact trivial | exact rfl | (refine And.intro ?_ ?_))) trivial rfl ?_
                refine qn2016 _ _ ?_
                refine COk.seqQ fun Q2017 qn2017 qx2017 qr2017 => ?_
                refine COk.sub (ts2 := [(1, .int a1), (3, .sl 1 (List.map eInt a3)), (4, .ptr 4 0), (8, .ptr 8 0), (10, .ptr 10 0), (11, .int v18), (12, .int v19), (13, .own 213), (14, .own 76), (15, .mp 64), (16, .int (k17 : Int)), (17, .ptr 17 0), (18, .own 78), (19, .int r64.1), (20, .int r64.2), (66, .sl 5 (List.map eIns x14.code)), (67, .int (x14.code.length : Int)), (68, .int (k17 : Int))]) (os2 := [(4, .box (eWd a0) 26), (8, .box [.int (0 : Int), .str ByteArray.empty, .int (0 : Int), .int (0 : Int), .nilsl] 53), (10, .box (eMe x14) 64), (17, .box (eIns x37) 62), (64, .mapo (List.map mInt v22)), (76, .row 1 (List.map eInt (v21 ++ [v19])) 3), (78, .row 5 (List.map eIns ([x37].set ((0 : Int).toNat) (⟨x47.op, x47.a, x47.b, (k17 : Int), x47.name⟩ : Ins))) 62), (213, .row 1 (List.map (eSl 5 eIns) v20) 51)]) [] ⟨⟨rfl, (by repeat (first | exact trivial | exact rfl | (refine And.intro ?_ ?_))), rfl, rfl, rfl, rfl, rfl, rfl, rfl, rfl, rfl, rfl, rfl, rfl, rfl, (by repeat (first | exact trivial | exact rfl | (refine And.intro ?_ ?_))), rfl, rfl, trivial⟩, ⟨rfl, rfl, rfl, rfl, rfl, rfl, rfl, rfl, trivial⟩, rfl, rfl⟩ (by rw [hn]; rfl) ?_
                refine gor hn ?_
                refine qn2017 _ _ ?_
                obtain ⟨o70, h69, h59⟩ := bindM h59
                refine COk.joinR (ι := { s : (Int × (List (Int × Bool)) × (List Ins)) // o70 = s }) (fun s => [(1, .int a1), (3, .sl 1 (List.map eInt a3)), (4, .ptr 4 0), (8, .ptr 8 0), (10, .ptr 10 0), (11, .int s.1.1), (12, .int v19), (13, .own 213), (14, .own 76), (15, .mp 64), (18, .own 169), (66, .sl 5 (List.map eIns x14.code)), (67, .int (x14.code.length : Int)), (68, .int (k17 : Int))]) (fun s => [(4, .box (eWd a0) 26), (8, .box [.int (0 : Int), .str ByteArray.empty, .int (0 : Int), .int (0 : Int), .nilsl] 53), (10, .box (eMe x14) 64), (64, .mapo (List.map mInt s.1.2.1)), (76, .row 1 (List.map eInt (v21 ++ [v19])) 3), (169, .row 5 (List.map eIns s.1.2.2) 62), (213, .row 1 (List.map (eSl 5 eIns) v20) 51)]) (fun Q2018 qn2018 qx2018 qr2018 => ?_) (by intro s; rw [hn]; rfl) ?_
                · refine goc hn ?_
                  refine bselM h69 (fun hb71 h69 => ?_) (fun hb71 h69 => ?_)
                  · refine COk.seqQ fun Q2019 qn2019 qx2019 qr2019 => ?_
                    refine COk.sub (ts2 := [(1, .int a1), (3, .sl 1 (List.map eInt a3)), (4, .ptr 4 0), (8, .ptr 8 0), (10, .ptr 10 0), (11, .int v18), (12, .int v19), (13, .own 213), (14, .own 76), (15, .mp 64), (16, .int (k17 : Int)), (17, .ptr 17 0), (18, .own 78), (19, .int r64.1), (20, .int r64.2), (66, .sl 5 (List.map eIns x14.code)), (67, .int (x14.code.length : Int)), (68, .int (k17 : Int))]) (os2 := [(4, .box (eWd a0) 26), (8, .box [.int (0 : Int), .str ByteArray.empty, .int (0 : Int), .int (0 : Int), .nilsl] 53), (10, .box (eMe x14) 64), (17, .box (eIns x37) 62), (64, .mapo (List.map mInt v22)), (76, .row 1 (List.map eInt (v21 ++ [v19])) 3), (78, .row 5 (List.map eIns ([x37].set ((0 : Int).toNat) (⟨x47.op, x47.a, x47.b, (k17 : Int), x47.name⟩ : Ins))) 62), (213, .row 1 (List.map (eSl 5 eIns) v20) 51)]) [] ⟨⟨rfl, (by repeat (first | exact trivial | exact rfl | (refine And.intro ?_ ?_))), rfl, rfl, rfl, rfl, rfl, rfl, rfl, rfl, rfl, rfl, rfl, rfl, rfl, (by repeat (first | exact trivial | exact rfl | (refine And.intro ?_ ?_))), rfl, rfl, trivial⟩, ⟨rfl, rfl, rfl, rfl, rfl, rfl, rfl, rfl, trivial⟩, rfl, rfl⟩ (by rw [hn]; rfl) ?_
                    refine gor hn ?_
                    obtain ⟨x72, hx73, h69⟩ := bindM h69
                    refine idxM hx73 ?_
                    obtain ⟨x74, hx75, h69⟩ := bindM h69
                    refine idxM hx75 ?_
                    refine qn2019 _ _ ?_
                    refine COk.seqQ fun Q2020 qn2020 qx2020 qr2020 => ?_
                    refine COk.sub (ts2 := [(1, .int a1), (3, .sl 1 (List.map eInt a3)), (4, .ptr 4 0), (8, .ptr 8 0), (10, .ptr 10 0), (11, .int v18), (12, .int v19), (13, .own 213), (14, .own 76), (15, .mp 64), (16, .int (k17 : Int)), (17, .ptr 17 0), (18, .own 78), (21, .ptr 21 0), (66, .sl 5 (List.map eIns x14.code)), (67, .int (x14.code.length : Int)), (68, .int (k17 : Int))]) (os2 := [(4, .box (eWd a0) 26), (8, .box [.int (0 : Int), .str ByteArray.empty, .int (0 : Int), .int (0 : Int), .nilsl] 53), (10, .box (eMe x14) 64), (17, .box (eIns x37) 62), (21, .box (eMe x74) 64), (64, .mapo (List.map mInt v22)), (76, .row 1 (List.map eInt (v21 ++ [v19])) 3), (78, .row 5 (List.map eIns ([x37].set ((0 : Int).toNat) (⟨x47.op, x47.a, x47.b, (k17 : Int), x47.name⟩ : Ins))) 62), (213, .row 1 (List.map (eSl 5 eIns) v20) 51)]) [] ⟨⟨rfl, (by repeat (first | exact trivial | exact rfl | (refine And.intro ?_ ?_))), rfl, rfl, rfl, rfl, rfl, rfl, rfl, rfl, rfl, rfl, rfl, rfl, (by repeat (first | exact trivial | exact rfl | (refine And.intro ?_ ?_))), rfl, rfl, trivial⟩, ⟨rfl, rfl, rfl, rfl, rfl, rfl, rfl, rfl, rfl, trivial⟩, rfl, rfl⟩ (by rw [hn]; rfl) ?_
                    refine gor hn ?_
                    refine Or.inr ?_
                    refine Or.inr ?_
                    refine Or.inr ?_
                    refine lenM (fun hl76 => ?_)
                    refine Or.inr ?_
                    refine qn2020 _ _ ?_
                    refine COk.seqQ fun Q2021 qn2021 qx2021 qr2021 => ?_
                    obtain ⟨o79, h78, h69⟩ := bindM h69
                    refine COk.joinR (ι := { s : Bool // o79 = s }) (fun s => [(1, .int a1), (3, .sl 1 (List.map eInt a3)), (4, .ptr 4 0), (8, .ptr 8 0), (10, .ptr 10 0), (11, .int v18), (12, .int v19), (13, .own 213), (14, .own 76), (15, .mp 64), (16, .int (k17 : Int)), (18, .own 78), (21, .ptr 21 0), (66, .sl 5 (List.map eIns x14.code)), (67, .int (x14.code.length : Int)), (68, .int (k17 : Int)), (161, .bool s.1)]) (fun s => [(4, .box (eWd a0) 26), (8, .box [.int (0 : Int), .str ByteArray.empty, .int (0 : Int), .int (0 : Int), .nilsl] 53), (10, .box (eMe x14) 64), (21, .box (eMe x74) 64), (64, .mapo (List.map mInt v22)), (76, .row 1 (List.map eInt (v21 ++ [v19])) 3), (78, .row 5 (List.map eIns ([x37].set ((0 : Int).toNat) (⟨x47.op, x47.a, x47.b, (k17 : Int), x47.name⟩ : Ins))) 62), (213, .row 1 (List.map (eSl 5 eIns) v20) 51)]) (fun Q2022 qn2022 qx2022 qr2022 => ?_) (by intro s; rw [hn]; rfl) ?_
                    · refine COk.sub (ts2 := [(1, .int a1), (3, .sl 1 (List.map eInt a3)), (4, .ptr 4 0), (8, .ptr 8 0), (10, .ptr 10 0), (11, .int v18), (12, .int v19), (13, .own 213), (14, .own 76), (15, .mp 64), (16, .int (k17 : Int)), (17, .ptr 17 0), (18, .own 78), (21, .ptr 21 0), (22, .int (wr ((wr ((wr ((3 : Int) + x74.args)) + (wr ((2 : Int) * x74.temps)))) + (x74.code.length : Int)))), (66, .sl 5 (List.map eIns x14.code)), (67, .int (x14.code.length : Int)), (68, .int (k17 : Int))]) (os2 := [(4, .box (eWd a0) 26), (8, .box [.int (0 : Int), .str ByteArray.empty, .int (0 : Int), .int (0 : Int), .nilsl] 53), (10, .box (eMe x14) 64), (17, .box (eIns x37) 62), (21, .box (eMe x74) 64), (64, .mapo (List.map mInt v22)), (76, .row 1 (List.map eInt (v21 ++ [v19])) 3), (78, .row 5 (List.map eIns ([x37].set ((0 : Int).toNat) (⟨x47.op, x47.a, x47.b, (k17 : Int), x47.name⟩ : Ins))) 62), (213, .row 1 (List.map (eSl 5 eIns) v20) 51)]) [] ⟨⟨rfl, (by repeat (first | exact trivial | exact rfl | (refine And.intro ?_ ?_))), rfl, rfl, rfl, rfl, rfl, rfl, rfl, rfl, rfl, rfl, rfl, rfl, rfl, (by repeat (first | exact trivial | exact rfl | (refine And.intro ?_ ?_))), rfl, rfl, trivial⟩, ⟨rfl, rfl, rfl, rfl, rfl, rfl, rfl, rfl, rfl, trivial⟩, rfl, rfl⟩ (by rw [hn]; rfl) ?_
                      refine gor hn ?_
                      obtain ⟨r80, hr81, h78⟩ := bindM h78
                      show CallOk Try.prog _ _ _ _
                      refine CallOk.as (qcref5_Leaf_ok N x74 r80 hr81) (by repeat (first | exact trivial | exact rfl | (refine And.intro ?_ ?_))) trivial rfl ?_
                      refine bselM h78 (fun hb82 h78 => ?_) (fun hb82 h78 => ?_)
                      · refine bselT hb82 ?_
                        refine bselT hb82 ?_
                        refine bselT hb82 ?_
                        refine bselT hb82 ?_
                        refine bselT hb82 ?_
                        refine bselM h78 (fun hb83 h78 => ?_) (fun hb83 h78 => ?_)
                        · refine bselT hb83 ?_
                          refine bselT hb83 ?_
                          refine Or.inr ?_
                          refine bselT hb83 ?_
                          refine bselT hb83 ?_
                          refine bselT hb83 ?_
                          refine lenM (fun hl84 => ?_)
                          refine bselT hb83 ?_
                          refine Or.inr ?_
                          refine bselT hb83 ?_
                          refine bselT hb83 ?_
                          refine Or.inr ?_
                          refine bselT hb83 ?_
                          refine bselT hb83 ?_
                          refine bselM h78 (fun hb85 h78 => ?_) (fun hb85 h78 => ?_)
                          · refine bselT hb85 ?_
                            refine Or.inr ?_
                            refine bselT hb85 ?_
                            refine bselT hb85 ?_
                            refine bselT hb85 ?_
                            refine Or.inr ?_
                            refine bselT hb85 ?_
                            refine bselT hb85 ?_
                            refine bselT hb85 ?_
                            refine Or.inr ?_
                            refine bselT hb85 ?_
                            refine bselT hb85 ?_
                            refine qn2022 _ _ ?_
                            obtain rfl := Option.some.inj h78
                            refine EOk.done ?_
                            exact ⟨⟨_, rfl⟩, [], trivial, ⟨⟨rfl, (by repeat (first | exact trivial | exact rfl | (refine And.intro ?_ ?_))), rfl, rfl, rfl, rfl, rfl, rfl, rfl, rfl, rfl, rfl, rfl, (by repeat (first | exact trivial | exact rfl | (refine And.intro ?_ ?_))), rfl, rfl, rfl, trivial⟩, ⟨rfl, rfl, rfl, rfl, rfl, rfl, rfl, rfl, trivial⟩, rfl, rfl⟩⟩
                          · refine bselF hb85 ?_
                            refine bselF hb85 ?_
                            refine bselF hb85 ?_
                            refine bselF hb85 ?_
                            refine bselF hb85 ?_
                            refine bselF hb85 ?_
                            refine bselF hb85 ?_
                            refine bselF hb85 ?_
                            refine bselF hb85 ?_
                            refine qn2022 _ _ ?_
                            obtain rfl := Option.some.inj h78
                            refine EOk.done ?_
                            exact ⟨⟨_, rfl⟩, [], trivial, ⟨⟨rfl, (by repeat (first | exact trivial | exact rfl | (refine And.intro ?_ ?_))), rfl, rfl, rfl, rfl, rfl, rfl, rfl, rfl, rfl, rfl, rfl, (by repeat (first | exact trivial | exact rfl | (refine And.intro ?_ ?_))), rfl, rfl, rfl, trivial⟩, ⟨rfl, rfl, rfl, rfl, rfl, rfl, rfl, rfl, trivial⟩, rfl, rfl⟩⟩
                        · refine bselF hb83 ?_
                          refine bselF hb83 ?_
                          refine bselF hb83 ?_
                          refine bselF hb83 ?_
                          refine bselF hb83 ?_
                          refine bselF hb83 ?_
                          refine bselF hb83 ?_
                          refine bselF hb83 ?_
                          refine bselF hb83 ?_
                          refine bselF hb83 ?_
                          refine qn2022 _ _ ?_
                          obtain rfl := Option.some.inj h78
                          refine EOk.done ?_
                          exact ⟨⟨_, rfl⟩, [], trivial, ⟨⟨rfl, (by repeat (first | exact trivial | exact rfl | (refine And.intro ?_ ?_))), rfl, rfl, rfl, rfl, rfl, rfl, rfl, rfl, rfl, rfl, rfl, (by repeat (first | exact trivial | exact rfl | (refine And.intro ?_ ?_))), rfl, rfl, rfl, trivial⟩, ⟨rfl, rfl, rfl, rfl, rfl, rfl, rfl, rfl, trivial⟩, rfl, rfl⟩⟩
                      · refine bselF hb82 ?_
                        refine bselF hb82 ?_
                        refine bselF hb82 ?_
                        refine bselF hb82 ?_
                        refine bselF hb82 ?_
                        refine qn2022 _ _ ?_
                        obtain rfl := Option.some.inj h78
                        refine EOk.done ?_
                        exact ⟨⟨_, rfl⟩, [], trivial, ⟨⟨rfl, (by repeat (first | exact trivial | exact rfl | (refine And.intro ?_ ?_))), rfl, rfl, rfl, rfl, rfl, rfl, rfl, rfl, rfl, rfl, rfl, (by repeat (first | exact trivial | exact rfl | (refine And.intro ?_ ?_))), rfl, rfl, rfl, trivial⟩, ⟨rfl, rfl, rfl, rfl, rfl, rfl, rfl, rfl, trivial⟩, rfl, rfl⟩⟩
                    rintro ⟨v77, hv_⟩
                    replace hv_ := hv_.symm
                    subst hv_
                    refine qn2021 _ _ ?_
                    obtain ⟨o90, h89, h69⟩ := bindM h69
                    refine COk.joinR (ι := { s : (Int × (List (Int × Bool)) × (List Ins)) // o90 = s }) (fun s => [(1, .int a1), (3, .sl 1 (List.map eInt a3)), (4, .ptr 4 0), (8, .ptr 8 0), (10, .ptr 10 0), (11, .int s.1.1), (12, .int v19), (13, .own 213), (14, .own 76), (15, .mp 64), (18, .own 169), (66, .sl 5 (List.map eIns x14.code)), (67, .int (x14.code.length : Int)), (68, .int (k17 : Int))]) (fun s => [(4, .box (eWd a0) 26), (8, .box [.int (0 : Int), .str ByteArray.empty, .int (0 : Int), .int (0 : Int), .nilsl] 53), (10, .box (eMe x14) 64), (64, .mapo (List.map mInt s.1.2.1)), (76, .row 1 (List.map eInt (v21 ++ [v19])) 3), (169, .row 5 (List.map eIns s.1.2.2) 62), (213, .row 1 (List.map (eSl 5 eIns) v20) 51)]) (fun Q2023 qn2023 qx2023 qr2023 => ?_) (by intro s; rw [hn]; rfl) ?_
                    · refine goc hn ?_
                      refine bselM h89 (fun hb91 h89 => ?_) (fun hb91 h89 => ?_)
                      · refine COk.seqQ fun Q2024 qn2024 qx2024 qr2024 => ?_
                        refine COk.sub (ts2 := [(1, .int a1), (3, .sl 1 (List.map eInt a3)), (4, .ptr 4 0), (8, .ptr 8 0), (10, .ptr 10 0), (11, .int v18), (12, .int v19), (13, .own 213), (14, .own 76), (15, .mp 64), (16, .int (k17 : Int)), (21, .ptr 21 0), (66, .sl 5 (List.map eIns x14.code)), (67, .int (x14.code.length : Int)), (68, .int (k17 : Int))]) (os2 := [(4, .box (eWd a0) 26), (8, .box [.int (0 : Int), .str ByteArray.empty, .int (0 : Int), .int (0 : Int), .nilsl] 53), (10, .box (eMe x14) 64), (21, .box (eMe x74) 64), (64, .mapo (List.map mInt v22)), (76, .row 1 (List.map eInt (v21 ++ [v19])) 3), (213, .row 1 (List.map (eSl 5 eIns) v20) 51)]) [] ⟨⟨rfl, (by repeat (first | exact trivial | exact rfl | (refine And.intro ?_ ?_))), rfl, rfl, rfl, rfl, rfl, rfl, rfl, rfl, rfl, rfl, (by repeat (first | exact trivial | exact rfl | (refine And.intro ?_ ?_))), rfl, rfl, trivial⟩, ⟨rfl, rfl, rfl, rfl, rfl, rfl, rfl, trivial⟩, rfl, rfl⟩ (by rw [hn]; rfl) ?_
                        refine god hn (by kernel_rfl) ?_
                        obtain ⟨x92, hx93, h89⟩ := bindM h89
                        refine idxM hx93 ?_
                        obtain ⟨r94, hr95, h89⟩ := bindM h89
                        show CallOk Try.prog _ _ _ _
                        refine CallOk.as ((qcref5_Piece_ok N x74 v18 x92 (k17 : Int) r94 hr95).sw 0 169) (by repeat (first | exact trivial | exact rfl | (refine And.intro ?_ ?_))) trivial rfl ?_
                        refine qn2024 _ _ ?_
                        refine COk.seqQ fun Q2025 qn2025 qx2025 qr2025 => ?_
                        refine COk.sub (ts2 := [(1, .int a1), (3, .sl 1 (List.map eInt a3)), (4, .ptr 4 0), (8, .ptr 8 0), (10, .ptr 10 0), (11, .int v18), (12, .int v19), (13, .own 213), (14, .own 76), (15, .mp 64), (16, .int (k17 : Int)), (18, .own 169), (21, .ptr 21 0), (66, .sl 5 (List.map eIns x14.code)), (67, .int (x14.code.length : Int)), (68, .int (k17 : Int))]) (os2 := [(4, .box (eWd a0) 26), (8, .box [.int (0 : Int), .str ByteArray.empty, .int (0 : Int), .int (0 : Int), .nilsl] 53), (10, .box (eMe x14) 64), (21, .box (eMe x74) 64), (64, .mapo (List.map mInt v22)), (76, .row 1 (List.map eInt (v21 ++ [v19])) 3), (169, .row 5 (List.map eIns r94) 62), (213, .row 1 (List.map (eSl 5 eIns) v20) 51)]) [] ⟨⟨rfl, (by repeat (first | exact trivial | exact rfl | (refine And.intro ?_ ?_))), rfl, rfl, rfl, rfl, rfl, rfl, rfl, rfl, rfl, rfl, rfl, (by repeat (first | exact trivial | exact rfl | (refine And.intro ?_ ?_))), rfl, rfl, trivial⟩, ⟨rfl, rfl, rfl, rfl, rfl, rfl, rfl, rfl, trivial⟩, rfl, rfl⟩ (by rw [hn]; rfl) ?_
                        refine gor hn ?_
                        refine Or.inr ?_
                        refine Or.inr ?_
                        refine Or.inr ?_
                        refine qn2025 _ _ ?_
                        refine COk.sub (ts2 := [(1, .int a1), (3, .sl 1 (List.map eInt a3)), (4, .ptr 4 0), (8, .ptr 8 0), (10, .ptr 10 0), (11, .int (wr ((wr ((wr (v18 + (1 : Int))) + x74.args)) + x74.temps))), (12, .int v19), (13, .own 213), (14, .own 76), (15, .mp 64), (16, .int (k17 : Int)), (18, .own 169), (66, .sl 5 (List.map eIns x14.code)), (67, .int (x14.code.length : Int)), (68, .int (k17 : Int))]) (os2 := [(4, .box (eWd a0) 26), (8, .box [.int (0 : Int), .str ByteArray.empty, .int (0 : Int), .int (0 : Int), .nilsl] 53), (10, .box (eMe x14) 64), (64, .mapo (List.map mInt v22)), (76, .row 1 (List.map eInt (v21 ++ [v19])) 3), (169, .row 5 (List.map eIns r94) 62), (213, .row 1 (List.map (eSl 5 eIns) v20) 51)]) [] ⟨⟨rfl, (by repeat (first | exact trivial | exact rfl | (refine And.intro ?_ ?_))), rfl, rfl, rfl, rfl, rfl, rfl, rfl, rfl, rfl, rfl, (by repeat (first | exact trivial | exact rfl | (refine And.intro ?_ ?_))), rfl, rfl, trivial⟩, ⟨rfl, rfl, rfl, rfl, rfl, rfl, rfl, trivial⟩, rfl, rfl⟩ (by rw [hn]; rfl) ?_
                        refine gor hn ?_
                        obtain ⟨hg96, h89⟩ := guardM h89
                        refine updI rfl rfl hg96 ?_
                        refine qn2023 _ _ ?_
                        obtain rfl := Option.some.inj h89
                        refine EOk.done ?_
                        exact ⟨⟨_, rfl⟩, [], trivial, ⟨⟨rfl, (by repeat (first | exact trivial | exact rfl | (refine And.intro ?_ ?_))), rfl, rfl, rfl, rfl, rfl, rfl, rfl, rfl, rfl, (by repeat (first | exact trivial | exact rfl | (refine And.intro ?_ ?_))), rfl, rfl, trivial⟩, ⟨rfl, rfl, rfl, rfl, rfl, rfl, rfl, trivial⟩, rfl, rfl⟩⟩
                      · refine gok hn ?_
                        refine qn2023 _ _ ?_
                        obtain rfl := Option.some.inj h89
                        refine EOk.done ?_
                        exact ⟨⟨_, rfl⟩, [(169, 78)], trivial, ⟨⟨rfl, (by repeat (first | exact trivial | exact rfl | (refine And.intro ?_ ?_))), rfl, rfl, rfl, rfl, rfl, rfl, rfl, rfl, rfl, (by repeat (first | exact trivial | exact rfl | (refine And.intro ?_ ?_))), rfl, rfl, trivial⟩, ⟨rfl, rfl, rfl, rfl, rfl, rfl, rfl, trivial⟩, rfl, rfl⟩⟩
                    rintro ⟨⟨v86, v87, v88⟩, rfl⟩
                    refine qn2018 _ _ ?_
                    obtain rfl := Option.some.inj h69
                    refine EOk.done ?_
                    exact ⟨⟨_, rfl⟩, [], trivial, ⟨⟨rfl, (by repeat (first | exact trivial | exact rfl | (refine And.intro ?_ ?_))), rfl, rfl, rfl, rfl, rfl, rfl, rfl, rfl, rfl, (by repeat (first | exact trivial | exact rfl | (refine And.intro ?_ ?_))), rfl, rfl, trivial⟩, ⟨rfl, rfl, rfl, rfl, rfl, rfl, rfl, trivial⟩, rfl, rfl⟩⟩
                  · refine gok hn ?_
                    refine qn2018 _ _ ?_
                    obtain rfl := Option.some.inj h69
                    refine EOk.done ?_
                    exact ⟨⟨_, rfl⟩, [(169, 78)], trivial, ⟨⟨rfl, (by repeat (first | exact trivial | exact rfl | (refine And.intro ?_ ?_))), rfl, rfl, rfl, rfl, rfl, rfl, rfl, rfl, rfl, (by repeat (first | exact trivial | exact rfl | (refine And.intro ?_ ?_))), rfl, rfl, trivial⟩, ⟨rfl, rfl, rfl, rfl, rfl, rfl, rfl, trivial⟩, rfl, rfl⟩⟩
                rintro ⟨⟨v66, v67, v68⟩, rfl⟩
                refine qn2015 _ _ ?_
                obtain rfl := Option.some.inj h59
                refine EOk.done ?_
                exact ⟨⟨_, rfl⟩, [], trivial, ⟨⟨rfl, (by repeat (first | exact trivial | exact rfl | (refine And.intro ?_ ?_))), rfl, rfl, rfl, rfl, rfl, rfl, rfl, rfl, rfl, (by repeat (first | exact trivial | exact rfl | (refine And.intro ?_ ?_))), rfl, rfl, trivial⟩, ⟨rfl, rfl, rfl, rfl, rfl, rfl, rfl, trivial⟩, rfl, rfl⟩⟩
              · refine gok hn ?_
                refine qn2015 _ _ ?_
                obtain rfl := Option.some.inj h59
                refine EOk.done ?_
                exact ⟨⟨_, rfl⟩, [(169, 78)], trivial, ⟨⟨rfl, (by repeat (first | exact trivial | exact rfl | (refine And.intro ?_ ?_))), rfl, rfl, rfl, rfl, rfl, rfl, rfl, rfl, rfl, (by repeat (first | exact trivial | exact rfl | (refine And.intro ?_ ?_))), rfl, rfl, trivial⟩, ⟨rfl, rfl, rfl, rfl, rfl, rfl, rfl, trivial⟩, rfl, rfl⟩⟩
            rintro ⟨⟨v56, v57, v58⟩, rfl⟩
            refine qn2011 _ _ ?_
            obtain rfl := Option.some.inj h44
            refine EOk.done ?_
            exact ⟨⟨_, rfl⟩, [], trivial, ⟨⟨rfl, (by repeat (first | exact trivial | exact rfl | (refine And.intro ?_ ?_))), rfl, rfl, rfl, rfl, rfl, rfl, rfl, rfl, rfl, (by repeat (first | exact trivial | exact rfl | (refine And.intro ?_ ?_))), rfl, rfl, trivial⟩, ⟨rfl, rfl, rfl, rfl, rfl, rfl, rfl, trivial⟩, rfl, rfl⟩⟩
          · refine gok hn ?_
            refine qn2011 _ _ ?_
            obtain rfl := Option.some.inj h44
            refine EOk.done ?_
            exact ⟨⟨_, rfl⟩, [(169, 78)], trivial, ⟨⟨rfl, (by repeat (first | exact trivial | exact rfl | (refine And.intro ?_ ?_))), rfl, rfl, rfl, rfl, rfl, rfl, rfl, rfl, rfl, (by repeat (first | exact trivial | exact rfl | (refine And.intro ?_ ?_))), rfl, rfl, trivial⟩, ⟨rfl, rfl, rfl, rfl, rfl, rfl, rfl, trivial⟩, rfl, rfl⟩⟩
        rintro ⟨⟨v41, v42, v43⟩, rfl⟩
        refine qn2009 _ _ ?_
        refine COk.seqQ fun Q2026 qn2026 qx2026 qr2026 => ?_
        refine gor hn ?_
        refine lenM (fun hl97 => ?_)
        refine Or.inr ?_
        refine qn2026 _ _ ?_
        refine COk.sub (ts2 := [(1, .int a1), (3, .sl 1 (List.map eInt a3)), (4, .ptr 4 0), (8, .ptr 8 0), (10, .ptr 10 0), (11, .int v41), (12, .int (wr (v19 + (v43.length : Int)))), (13, .own 213), (14, .own 76), (15, .mp 64), (18, .own 169), (66, .sl 5 (List.map eIns x14.code)), (67, .int (x14.code.length : Int)), (68, .int (k17 : Int))]) (os2 := [(4, .box (eWd a0) 26), (8, .box [.int (0 : Int), .str ByteArray.empty, .int (0 : Int), .int (0 : Int), .nilsl] 53), (10, .box (eMe x14) 64), (64, .mapo (List.map mInt v42)), (76, .row 1 (List.map eInt (v21 ++ [v19])) 3), (169, .row 5 (List.map eIns v43) 62), (213, .row 1 (List.map (eSl 5 eIns) v20) 51)]) [] ⟨⟨rfl, (by repeat (first | exact trivial | exact rfl | (refine And.intro ?_ ?_))), rfl, rfl, rfl, rfl, rfl, rfl, rfl, rfl, rfl, (by repeat (first | exact trivial | exact rfl | (refine And.intro ?_ ?_))), rfl, rfl, trivial⟩, ⟨rfl, rfl, rfl, rfl, rfl, rfl, rfl, trivial⟩, rfl, rfl⟩ (by rw [hn]; rfl) ?_
        refine gor hn ?_
        refine Exists.intro (List.map (eSl 5 eIns) [v43]) (And.intro (by repeat (first | exact trivial | exact rfl | (refine And.intro ?_ ?_))) ?_)
        obtain ⟨hg98, h33⟩ := guardM h33
        refine appM (l2 := [v43]) hg98 (leLs_refl _) ?_
        refine qn2005 _ _ ?_
        refine qn1904 _ _ ?_
        refine COk.sub (ts2 := [(1, .int a1), (3, .sl 1 (List.map eInt a3)), (4, .ptr 4 0), (8, .ptr 8 0), (10, .ptr 10 0), (11, .int v41), (12, .int (wr (v19 + (v43.length : Int)))), (13, .own 187), (14, .own 76), (15, .mp 64), (66, .sl 5 (List.map eIns x14.code)), (67, .int (x14.code.length : Int)), (68, .int (k17 : Int))]) (os2 := [(4, .box (eWd a0) 26), (8, .box [.int (0 : Int), .str ByteArray.empty, .int (0 : Int), .int (0 : Int), .nilsl] 53), (10, .box (eMe x14) 64), (64, .mapo (List.map mInt v42)), (76, .row 1 (List.map eInt (v21 ++ [v19])) 3), (187, .row 1 (List.map (eSl 5 eIns) (v20 ++ [v43])) 51)]) [] ⟨⟨rfl, (by repeat (first | exact trivial | exact rfl | (refine And.intro ?_ ?_))), rfl, rfl, rfl, rfl, rfl, rfl, rfl, rfl, (by repeat (first | exact trivial | exact rfl | (refine And.intro ?_ ?_))), rfl, rfl, trivial⟩, ⟨rfl, rfl, rfl, rfl, rfl, rfl, trivial⟩, rfl, rfl⟩ (by rw [hn]; rfl) ?_
        refine gor hn ?_
        refine Or.inl (And.intro (inrK hx38 hl16) ?_)
        refine qn1899 _ _ ?_
        refine EOk.done ?_
        exact ⟨⟨(rest34, k17 + 1, v41, (wr (v19 + (v43.length : Int))), (v20 ++ [v43]), (v21 ++ [v19]), v42), hd2, h33⟩, [(213, 187), (214, 76)], by show rest34.length < rest34.length + 1; omega, ⟨⟨rfl, (by repeat (first | exact trivial | exact rfl | (refine And.intro ?_ ?_))), rfl, rfl, rfl, rfl, rfl, rfl, rfl, rfl, (by repeat (first | exact trivial | exact rfl | (refine And.intro ?_ ?_))), rfl, rfl, trivial⟩, ⟨rfl, rfl, rfl, rfl, rfl, rfl, trivial⟩, rfl, rfl⟩⟩
    rintro ⟨⟨v28, v29, v30, v31⟩, rfl⟩
    refine qn1395 _ _ ?_
    refine COk.seqQ fun Q2027 qn2027 qx2027 qr2027 => ?_
    refine COk.seqQ fun Q2028 qn2028 qx2028 qr2028 => ?_
    refine gor hn ?_
    refine lenMp (fun _ => ?_)
    refine qn2028 _ _ ?_
    refine goc hn ?_
    refine bselM h (fun hb99 h => ?_) (fun hb99 h => ?_)
    · refine COk.seqQ fun Q2030 qn2030 qx2030 qr2030 => ?_
      refine gor hn ?_
      refine qn2030 _ _ ?_
      refine got hn ?_
      refine qr2027 _ _ ?_
      obtain rfl := Option.some.inj h
      exact ⟨[], _, rfl, (by repeat (first | exact trivial | exact rfl | (refine And.intro ?_ ?_))), trivial, rfl, rfl, rfl, rfl, rfl⟩
    · refine gok hn ?_
      refine qn2027 _ _ ?_
      refine COk.seqQ fun Q2031 qn2031 qx2031 qr2031 => ?_
      refine gor hn ?_
      refine qn2031 _ _ ?_
      refine COk.seqQ fun Q2032 qn2032 qx2032 qr2032 => ?_
      refine COk.seqQ fun Q2033 qn2033 qx2033 qr2033 => ?_
      refine COk.sub (ts2 := [(8, .ptr 8 0), (13, .own 213), (14, .own 214), (15, .mp 64), (23, .ptr 23 0)]) (os2 := [(8, .box [.int (0 : Int), .str ByteArray.empty, .int (0 : Int), .int (0 : Int), .nilsl] 53), (23, .box [.int a1, .str x14.name, .int a0.epoch, .int v28, .nilsl] 53), (64, .mapo (List.map mInt v31)), (213, .row 1 (List.map (eSl 5 eIns) v29) 51), (214, .row 1 (List.map eInt v30) 3)]) [] ⟨⟨rfl, rfl, rfl, rfl, rfl, trivial⟩, ⟨rfl, rfl, rfl, rfl, rfl, trivial⟩, rfl, rfl⟩ (by rw [hn]; rfl) ?_
      refine gor hn ?_
      refine lenM (fun hl100 => ?_)
      refine qn2033 _ _ ?_
      refine COk.nilrowB 23 4 601 5 62 rfl rfl rfl rfl rfl rfl ?_
      obtain ⟨o105, h106, h⟩ := bindM h
      refine COk.joinR (ι := { s : (List Ins) // o105 = s }) (fun s => [(8, .ptr 8 0), (23, .ptr 23 0)]) (fun s => [(8, .box [.int (0 : Int), .str ByteArray.empty, .int (0 : Int), .int (0 : Int), .nilsl] 53), (23, .box [.int a1, .str x14.name, .int a0.epoch, .int v28, .own 601] 53), (601, .row 5 (List.map eIns s.1) 62)]) (fun Q2614 qn2614 qx2614 qr2614 => ?_) (by intro s; rw [hn]; rfl) ?_
      · refine COk.blkQ fun Q2615 qn2615 qe2615 qx2615 qr2615 => ?_
        refine COk.loopQ (ι := { q : ((List (List Ins)) × Nat × (List Ins)) // q.1 = v29.drop q.2.1 ∧ qcref5_Fast_l2 N v29 v30 v31 q.1 q.2.1 q.2.2 = some o105 }) (fun q => [(8, .ptr 8 0), (14, .own 214), (15, .mp 64), (23, .ptr 23 0), (200, .own 213), (201, .int (v29.length : Int)), (202, .int (q.1.2.1 : Int))]) (fun q => [(8, .box [.int (0 : Int), .str ByteArray.empty, .int (0 : Int), .int (0 : Int), .nilsl] 53), (23, .box [.int a1, .str x14.name, .int a0.epoch, .int v28, .own 601] 53), (64, .mapo (List.map mInt v31)), (213, .row 1 (List.map (eSl 5 eIns) v29) 51), (214, .row 1 (List.map eInt v30) 3), (601, .row 5 (List.map eIns q.1.2.2) 62)]) (fun q => q.1.1.length) ⟨(v29, 0, ([] : List Ins)), rfl, h106⟩ [] ⟨⟨rfl, rfl, rfl, rfl, rfl, rfl, rfl, trivial⟩, ⟨rfl, rfl, rfl, rfl, rfl, rfl, trivial⟩, rfl, rfl⟩ (by intro q; rw [hn]; rfl) ?_
        rintro ⟨⟨rest_, k101, v102⟩, hd108, h106⟩ Q2616 qn2616 qx2616 qr2616
        replace hd108 : rest_ = v29.drop k101 := hd108
        rcases rest_ with _ | ⟨x110, rest107⟩
        · have hlt112 := restNil hd108
          replace h106 := (qcref5_Fast_l2.eq_1 _ _ _ _ _ _).symm.trans h106
          refine COk.seqQ fun Q2617 qn2617 qx2617 qr2617 => ?_
          refine gor hn ?_
          refine qn2617 _ _ ?_
          refine COk.seqQ fun Q2618 qn2618 qx2618 qr2618 => ?_
          refine goc hn ?_
          refine bselF hlt112 ?_
          refine goe hn ?_
          refine qx2618 _ _ _ ?_
          refine qx2616 _ _ _ ?_
          refine qe2615 _ _ ?_
          refine qn2614 _ _ ?_
          obtain rfl := Option.some.inj h106
          refine EOk.done ?_
          exact ⟨⟨_, rfl⟩, [], trivial, ⟨⟨rfl, rfl, trivial⟩, ⟨rfl, rfl, rfl, trivial⟩, rfl, rfl⟩⟩
        · obtain ⟨hx111, hd2, hlt112⟩ := restCons hd108
          replace h106 := (qcref5_Fast_l2.eq_2 _ _ _ _ _ _ _ _).symm.trans h106
          refine COk.seqQ fun Q2619 qn2619 qx2619 qr2619 => ?_
          refine gor hn ?_
          refine qn2619 _ _ ?_
          refine COk.seqQ fun Q2620 qn2620 qx2620 qr2620 => ?_
          refine goc hn ?_
          refine bselT hlt112 ?_
          refine gok hn ?_
          refine qn2620 _ _ ?_
          refine COk.seqQ fun Q2621 qn2621 qx2621 qr2621 => ?_
          refine COk.blkQ fun Q2714 qn2714 qe2714 qx2714 qr2714 => ?_
          refine COk.seqQ fun Q2715 qn2715 qx2715 qr2715 => ?_
          refine gor hn ?_
          obtain ⟨x113, hx114, h106⟩ := bindM h106
          refine ownM hx114 ?_
          refine ldM (nthO_some hx114).2 ?_
          refine qn2715 _ _ ?_
          refine COk.seqQ fun Q2716 qn2716 qx2716 qr2716 => ?_
          refine gor hn ?_
          refine lenM (fun hl115 => ?_)
          refine qn2716 _ _ ?_
          obtain ⟨o120, h121, h106⟩ := bindM h106
          refine COk.joinR (ι := { s : (List Ins) // o120 = s }) (fun s => [(8, .ptr 8 0), (14, .own 214), (15, .mp 64), (23, .ptr 23 0), (200, .own 213), (201, .int (v29.length : Int)), (202, .int (k101 : Int))]) (fun s => [(8, .box [.int (0 : Int), .str ByteArray.empty, .int (0 : Int), .int (0 : Int), .nilsl] 53), (23, .box [.int a1, .str x14.name, .int a0.epoch, .int v28, .own 601] 53), (64, .mapo (List.map mInt v31)), (213, .row 1 (List.map (eSl 5 eIns) v29) 51), (214, .row 1 (List.map eInt v30) 3), (601, .row 5 (List.map eIns s.1) 62)]) (fun Q2750 qn2750 qx2750 qr2750 => ?_) (by intro s; rw [hn]; rfl) ?_
          · refine COk.blkQ fun Q2751 qn2751 qe2751 qx2751 qr2751 => ?_
            refine COk.loopQ (ι := { q : ((List Ins) × Nat × (List Ins)) // q.1 = x113.drop q.2.1 ∧ qcref5_Fast_l3 N v30 v31 k101 q.1 q.2.1 q.2.2 = some o120 }) (fun q => [(8, .ptr 8 0), (14, .own 214), (15, .mp 64), (23, .ptr 23 0), (24, .int (k101 : Int)), (200, .own 213), (201, .int (v29.length : Int)), (202, .int (k101 : Int)), (207, .sl 5 (List.map eIns x113)), (208, .int (x113.length : Int)), (209, .int (q.1.2.1 : Int))]) (fun q => [(8, .box [.int (0 : Int), .str ByteArray.empty, .int (0 : Int), .int (0 : Int), .nilsl] 53), (23, .box [.int a1, .str x14.name, .int a0.epoch, .int v28, .own 601] 53), (64, .mapo (List.map mInt v31)), (213, .row 1 (List.map (eSl 5 eIns) v29) 51), (214, .row 1 (List.map eInt v30) 3), (601, .row 5 (List.map eIns q.1.2.2) 62)]) (fun q => q.1.1.length) ⟨(x113, 0, v102), rfl, h121⟩ [] ⟨⟨rfl, rfl, rfl, rfl, rfl, rfl, rfl, rfl, (by repeat (first | exact trivial | exact rfl | (refine And.intro ?_ ?_))), rfl, rfl, trivial⟩, ⟨rfl, rfl, rfl, rfl, rfl, rfl, trivial⟩, rfl, rfl⟩ (by intro q; rw [hn]; rfl) ?_
            rintro ⟨⟨rest_, k116, v117⟩, hd123, h121⟩ Q2752 qn2752 qx2752 qr2752
            replace hd123 : rest_ = x113.drop k116 := hd123
            rcases rest_ with _ | ⟨x125, rest122⟩
            · have hlt127 := restNil hd123
              replace h121 := (qcref5_Fast_l3.eq_1 _ _ _ _ _ _).symm.trans h121
              refine COk.seqQ fun Q2753 qn2753 qx2753 qr2753 => ?_
              refine gor hn ?_
              refine qn2753 _ _ ?_
              refine COk.seqQ fun Q2754 qn2754 qx2754 qr2754 => ?_
              refine goc hn ?_
              refine bselF hlt127 ?_
              refine goe hn ?_
              refine qx2754 _ _ _ ?_
              refine qx2752 _ _ _ ?_
              refine qe2751 _ _ ?_
              refine qn2750 _ _ ?_
              obtain rfl := Option.some.inj h121
              refine EOk.done ?_
              exact ⟨⟨_, rfl⟩, [], trivial, ⟨⟨rfl, rfl, rfl, rfl, rfl, rfl, rfl, trivial⟩, ⟨rfl, rfl, rfl, rfl, rfl, rfl, trivial⟩, rfl, rfl⟩⟩
            · obtain ⟨hx126, hd2, hlt127⟩ := restCons hd123
              replace h121 := (qcref5_Fast_l3.eq_2 _ _ _ _ _ _ _ _).symm.trans h121
              refine COk.seqQ fun Q2755 qn2755 qx2755 qr2755 => ?_
              refine gor hn ?_
              refine qn2755 _ _ ?_
              refine COk.seqQ fun Q2756 qn2756 qx2756 qr2756 => ?_
              refine goc hn ?_
              refine bselT hlt127 ?_
              refine gok hn ?_
              refine qn2756 _ _ ?_
              refine COk.seqQ fun Q2757 qn2757 qx2757 qr2757 => ?_
              refine COk.blkQ fun Q2758 qn2758 qe2758 qx2758 qr2758 => ?_
              refine COk.seqQ fun Q2759 qn2759 qx2759 qr2759 => ?_
              refine gor hn ?_
              refine idxK hx126 ?_
              refine qn2759 _ _ ?_
              refine COk.seqQ fun Q2760 qn2760 qx2760 qr2760 => ?_
              refine COk.seqQ fun Q2761 qn2761 qx2761 qr2761 => ?_
              obtain ⟨o130, h129, h121⟩ := bindM h121
              refine COk.joinR (ι := { s : Bool // o130 = s }) (fun s => [(8, .ptr 8 0), (14, .own 214), (15, .mp 64), (23, .ptr 23 0), (24, .int (k101 : Int)), (27, .ptr 27 0), (200, .own 213), (201, .int (v29.length : Int)), (202, .int (k101 : Int)), (207, .sl 5 (List.map eIns x113)), (208, .int (x113.length : Int)), (209, .int (k116 : Int)), (220, .bool s.1)]) (fun s => [(8, .box [.int (0 : Int), .str ByteArray.empty, .int (0 : Int), .int (0 : Int), .nilsl] 53), (23, .box [.int a1, .str x14.name, .int a0.epoch, .int v28, .own 601] 53), (27, .box (eIns x125) 62), (64, .mapo (List.map mInt v31)), (213, .row 1 (List.map (eSl 5 eIns) v29) 51), (214, .row 1 (List.map eInt v30) 3), (601, .row 5 (List.map eIns v117) 62)]) (fun Q2762 qn2762 qx2762 qr2762 => ?_) (by intro s; rw [hn]; rfl) ?_
              · refine gor hn ?_
                refine bselM h129 (fun hb131 h129 => ?_) (fun hb131 h129 => ?_)
                · refine bselT hb131 ?_
                  refine bselT hb131 ?_
                  refine bselT hb131 ?_
                  refine qn2762 _ _ ?_
                  obtain rfl := Option.some.inj h129
                  refine EOk.done ?_
                  exact ⟨⟨_, rfl⟩, [], trivial, ⟨⟨rfl, rfl, rfl, rfl, rfl, rfl, rfl, rfl, rfl, (by repeat (first | exact trivial | exact rfl | (refine And.intro ?_ ?_))), rfl, rfl, rfl, trivial⟩, ⟨rfl, rfl, rfl, rfl, rfl, rfl, rfl, trivial⟩, rfl, rfl⟩⟩
                · refine bselF hb131 ?_
                  refine bselF hb131 ?_
                  refine bselF hb131 ?_
                  refine qn2762 _ _ ?_
                  obtain rfl := Option.some.inj h129
                  refine EOk.done ?_
                  exact ⟨⟨_, rfl⟩, [], trivial, ⟨⟨rfl, rfl, rfl, rfl, rfl, rfl, rfl, rfl, rfl, (by repeat (first | exact trivial | exact rfl | (refine And.intro ?_ ?_))), rfl, rfl, rfl, trivial⟩, ⟨rfl, rfl, rfl, rfl, rfl, rfl, rfl, trivial⟩, rfl, rfl⟩⟩
              rintro ⟨v128, hv_⟩
              replace hv_ := hv_.symm
              subst hv_
              refine qn2761 _ _ ?_
              obtain ⟨o134, h133, h121⟩ := bindM h121
              refine COk.joinR (ι := { s : Ins // o134 = s }) (fun s => [(8, .ptr 8 0), (14, .own 214), (15, .mp 64), (23, .ptr 23 0), (24, .int (k101 : Int)), (27, .ptr 27 0), (200, .own 213), (201, .int (v29.length : Int)), (202, .int (k101 : Int)), (207, .sl 5 (List.map eIns x113)), (208, .int (x113.length : Int)), (209, .int (k116 : Int))]) (fun s => [(8, .box [.int (0 : Int), .str ByteArray.empty, .int (0 : Int), .int (0 : Int), .nilsl] 53), (23, .box [.int a1, .str x14.name, .int a0.epoch, .int v28, .own 601] 53), (27, .box (eIns s.1) 62), (64, .mapo (List.map mInt v31)), (213, .row 1 (List.map (eSl 5 eIns) v29) 51), (214, .row 1 (List.map eInt v30) 3), (601, .row 5 (List.map eIns v117) 62)]) (fun Q2763 qn2763 qx2763 qr2763 => ?_) (by intro s; rw [hn]; rfl) ?_
              · refine goc hn ?_
                refine bselM h133 (fun hb135 h133 => ?_) (fun hb135 h133 => ?_)
                · refine COk.seqQ fun Q2764 qn2764 qx2764 qr2764 => ?_
                  refine gor hn ?_
                  refine lookI rfl rfl rfl rfl ?_
                  refine qn2764 _ _ ?_
                  obtain ⟨o138, h137, h133⟩ := bindM h133
                  refine COk.joinR (ι := { s : Int // o138 = s }) (fun s => [(8, .ptr 8 0), (14, .own 214), (15, .mp 64), (23, .ptr 23 0), (24, .int (k101 : Int)), (27, .ptr 27 0), (200, .own 213), (201, .int (v29.length : Int)), (202, .int (k101 : Int)), (207, .sl 5 (List.map eIns x113)), (208, .int (x113.length : Int)), (209, .int (k116 : Int))]) (fun s => [(8, .box [.int (0 : Int), .str ByteArray.empty, .int (0 : Int), .int (0 : Int), .nilsl] 53), (23, .box [.int a1, .str x14.name, .int a0.epoch, .int v28, .own 601] 53), (27, .box [.int x125.op, .int s.1, .int x125.b, .int x125.c, .str x125.name] 62), (64, .mapo (List.map mInt v31)), (213, .row 1 (List.map (eSl 5 eIns) v29) 51), (214, .row 1 (List.map eInt v30) 3), (601, .row 5 (List.map eIns v117) 62)]) (fun Q2765 qn2765 qx2765 qr2765 => ?_) (by intro s; rw [hn]; rfl) ?_
                  · refine goc hn ?_
                    refine bselM h137 (fun hb139 h137 => ?_) (fun hb139 h137 => ?_)
                    · refine god hn (by kernel_rfl) ?_
                      obtain ⟨x140, hx141, h137⟩ := bindM h137
                      refine ownM hx141 ?_
                      refine ldM (nthO_some hx141).2 ?_
                      refine Or.inr ?_
                      refine qn2765 _ _ ?_
                      obtain rfl := Option.some.inj h137
                      refine EOk.done ?_
                      exact ⟨⟨_, rfl⟩, [], trivial, ⟨⟨rfl, rfl, rfl, rfl, rfl, rfl, rfl, rfl, rfl, (by repeat (first | exact trivial | exact rfl | (refine And.intro ?_ ?_))), rfl, rfl, trivial⟩, ⟨rfl, rfl, rfl, rfl, rfl, rfl, rfl, trivial⟩, rfl, rfl⟩⟩
                    · refine gor hn ?_
                      obtain ⟨x142, hx143, h137⟩ := bindM h137
                      refine ownM hx143 ?_
                      refine ldM (nthO_some hx143).2 ?_
                      refine qn2765 _ _ ?_
                      obtain rfl := Option.some.inj h137
                      refine EOk.done ?_
                      exact ⟨⟨_, rfl⟩, [], trivial, ⟨⟨rfl, rfl, rfl, rfl, rfl, rfl, rfl, rfl, rfl, (by repeat (first | exact trivial | exact rfl | (refine And.intro ?_ ?_))), rfl, rfl, trivial⟩, ⟨rfl, rfl, rfl, rfl, rfl, rfl, rfl, trivial⟩, rfl, rfl⟩⟩
                  rintro ⟨v136, hv_⟩
                  replace hv_ := hv_.symm
                  subst hv_
                  refine qn2763 _ _ ?_
                  obtain rfl := Option.some.inj h133
                  refine EOk.done ?_
                  exact ⟨⟨_, rfl⟩, [], trivial, ⟨⟨rfl, rfl, rfl, rfl, rfl, rfl, rfl, rfl, rfl, (by repeat (first | exact trivial | exact rfl | (refine And.intro ?_ ?_))), rfl, rfl, trivial⟩, ⟨rfl, rfl, rfl, rfl, rfl, rfl, rfl, trivial⟩, rfl, rfl⟩⟩
                · refine gok hn ?_
                  refine qn2763 _ _ ?_
                  obtain rfl := Option.some.inj h133
                  refine EOk.done ?_
                  exact ⟨⟨_, rfl⟩, [], trivial, ⟨⟨rfl, rfl, rfl, rfl, rfl, rfl, rfl, rfl, rfl, (by repeat (first | exact trivial | exact rfl | (refine And.intro ?_ ?_))), rfl, rfl, trivial⟩, ⟨rfl, rfl, rfl, rfl, rfl, rfl, rfl, trivial⟩, rfl, rfl⟩⟩
              rintro ⟨v132, hv_⟩
              replace hv_ := hv_.symm
              subst hv_
              refine qn2760 _ _ ?_
              refine gor hn ?_
              refine Exists.intro (List.map eIns [v132]) (And.intro (by repeat (first | exact trivial | exact rfl | (refine And.intro ?_ ?_))) ?_)
              obtain ⟨hg144, h121⟩ := guardM h121
              refine appM (l2 := [v132]) hg144 (leLs_refl _) ?_
              refine qn2758 _ _ ?_
              refine qn2757 _ _ ?_
              refine COk.sub (ts2 := [(8, .ptr 8 0), (14, .own 214), (15, .mp 64), (23, .ptr 23 0), (24, .int (k101 : Int)), (200, .own 213), (201, .int (v29.length : Int)), (202, .int (k101 : Int)), (207, .sl 5 (List.map eIns x113)), (208, .int (x113.length : Int)), (209, .int (k116 : Int))]) (os2 := [(8, .box [.int (0 : Int), .str ByteArray.empty, .int (0 : Int), .int (0 : Int), .nilsl] 53), (23, .box [.int a1, .str x14.name, .int a0.epoch, .int v28, .own 242] 53), (64, .mapo (List.map mInt v31)), (213, .row 1 (List.map (eSl 5 eIns) v29) 51), (214, .row 1 (List.map eInt v30) 3), (242, .row 5 (List.map eIns (v117 ++ [v132])) 62)]) [] ⟨⟨rfl, rfl, rfl, rfl, rfl, rfl, rfl, rfl, (by repeat (first | exact trivial | exact rfl | (refine And.intro ?_ ?_))), rfl, rfl, trivial⟩, ⟨rfl, rfl, rfl, rfl, rfl, rfl, trivial⟩, rfl, rfl⟩ (by rw [hn]; rfl) ?_
              refine gor hn ?_
              refine Or.inl (And.intro (inrK hx126 hl115) ?_)
              refine qn2752 _ _ ?_
              refine EOk.done ?_
              exact ⟨⟨(rest122, k116 + 1, (v117 ++ [v132])), hd2, h121⟩, [(601, 242)], by show rest122.length < rest122.length + 1; omega, ⟨⟨rfl, rfl, rfl, rfl, rfl, rfl, rfl, rfl, (by repeat (first | exact trivial | exact rfl | (refine And.intro ?_ ?_))), rfl, rfl, trivial⟩, ⟨rfl, rfl, rfl, rfl, rfl, rfl, trivial⟩, rfl, rfl⟩⟩
          rintro ⟨v119, hv_⟩
          replace hv_ := hv_.symm
          subst hv_
          refine qn2714 _ _ ?_
          refine qn2621 _ _ ?_
          refine gor hn ?_
          refine Or.inl (And.intro (inrK hx111 hl100) ?_)
          refine qn2616 _ _ ?_
          refine EOk.done ?_
          exact ⟨⟨(rest107, k101 + 1, v119), hd2, h106⟩, [], by show rest107.length < rest107.length + 1; omega, ⟨⟨rfl, rfl, rfl, rfl, rfl, rfl, rfl, trivial⟩, ⟨rfl, rfl, rfl, rfl, rfl, rfl, trivial⟩, rfl, rfl⟩⟩
      rintro ⟨v104, hv_⟩
      replace hv_ := hv_.symm
      subst hv_
      refine qn2032 _ _ ?_
      refine COk.seqQ fun Q2766 qn2766 qx2766 qr2766 => ?_
      refine gor hn ?_
      refine qn2766 _ _ ?_
      refine COk.fzAll 601 rfl ?_
      refine got hn ?_
      obtain rfl := Option.some.inj h
      exact ⟨[], _, rfl, (by repeat (first | exact trivial | exact rfl | (refine And.intro ?_ ?_))), trivial, rfl, rfl, rfl, rfl, rfl⟩

/- qcref1.SameCode -/
set_option maxRecDepth 100000 in
set_option maxHeartbeats 1000000 in
theorem qcref1_SameCode_ok (N : Nat) (a0 : (List Ins)) (a1 : (List Ins)) (r : Bool) (h : qcref1_SameCode N a0 a1 = some r) : Spec Try.prog 45 [] [.sl 5 (List.map eIns a0), .sl 5 (List.map eIns a1)] (.bool r) [] [] := by
  refine Spec.of tabOk Try.func45 rfl Try.ntmps45 (by kernel_rfl) rfl rfl rfl fun Γ hn => ?_
  unfold qcref1_SameCode at h
  refine COk.seqQ fun Q45 qn45 qx45 qr45 => ?_
  refine gor hn ?_
  refine qn45 _ _ ?_
  refine COk.seqQ fun Q46 qn46 qx46 qr46 => ?_
  refine COk.seqQ fun Q47 qn47 qx47 qr47 => ?_
  refine gor hn ?_
  refine lenM (fun hl1 => ?_)
  refine lenM (fun hl2 => ?_)
  refine qn47 _ _ ?_
  refine goc hn ?_
  refine bselM h (fun hb3 h => ?_) (fun hb3 h => ?_)
  · refine COk.seqQ fun Q49 qn49 qx49 qr49 => ?_
    refine gor hn ?_
    refine qn49 _ _ ?_
    refine got hn ?_
    refine qr46 _ _ ?_
    obtain rfl := Option.some.inj h
    exact ⟨[], _, rfl, (by repeat (first | exact trivial | exact rfl | (refine And.intro ?_ ?_))), trivial, rfl, rfl, rfl, rfl, rfl⟩
  · refine gok hn ?_
    refine qn46 _ _ ?_
    refine COk.seqQ fun Q50 qn50 qx50 qr50 => ?_
    refine COk.seqQ fun Q51 qn51 qx51 qr51 => ?_
    refine gor hn ?_
    refine lenM (fun hl4 => ?_)
    refine qn51 _ _ ?_
    obtain ⟨o6, h7, h⟩ := bindM h
    refine COk.joinR (ι := { s : Unit // o6 = Ctl.next s }) (fun s => []) (fun s => []) (fun Q71 qn71 qx71 qr71 => ?_) (by intro s; rw [hn]; rfl) ?_
    · refine COk.blkQ fun Q72 qn72 qe72 qx72 qr72 => ?_
      refine COk.loopQ (ι := { q : ((List Ins) × Nat) // q.1 = a0.drop q.2 ∧ qcref1_SameCode_l1 N a1 q.1 q.2 = some o6 }) (fun q => [(0, .sl 5 (List.map eIns a0)), (1, .sl 5 (List.map eIns a1)), (12, .int (a0.length : Int)), (13, .int (q.1.2 : Int))]) (fun q => []) (fun q => q.1.1.length) ⟨(a0, 0), rfl, h7⟩ [] ⟨⟨(by repeat (first | exact trivial | exact rfl | (refine And.intro ?_ ?_))), (by repeat (first | exact trivial | exact rfl | (refine And.intro ?_ ?_))), rfl, rfl, trivial⟩, trivial, rfl, rfl⟩ (by intro q; rw [hn]; rfl) ?_
      rintro ⟨⟨rest_, k5⟩, hd9, h7⟩ Q73 qn73 qx73 qr73
      replace hd9 : rest_ = a0.drop k5 := hd9
      rcases rest_ with _ | ⟨x11, rest8⟩
      · have hlt13 := restNil hd9
        replace h7 := (qcref1_SameCode_l1.eq_1 _ _ _).symm.trans h7
        refine COk.seqQ fun Q74 qn74 qx74 qr74 => ?_
        refine gor hn ?_
        refine qn74 _ _ ?_
        refine COk.seqQ fun Q75 qn75 qx75 qr75 => ?_
        refine goc hn ?_
        refine bselF hlt13 ?_
        refine goe hn ?_
        refine qx75 _ _ _ ?_
        refine qx73 _ _ _ ?_
        refine qe72 _ _ ?_
        refine qn71 _ _ ?_
        obtain rfl := Option.some.inj h7
        refine EOk.done ?_
        exact ⟨⟨_, rfl⟩, [], trivial, ⟨trivial, trivial, rfl, rfl⟩⟩
      · obtain ⟨hx12, hd2, hlt13⟩ := restCons hd9
        replace h7 := (qcref1_SameCode_l1.eq_2 _ _ _ _ _).symm.trans h7
        refine COk.seqQ fun Q76 qn76 qx76 qr76 => ?_
        refine gor hn ?_
        refine qn76 _ _ ?_
        refine COk.seqQ fun Q77 qn77 qx77 qr77 => ?_
        refine goc hn ?_
        refine bselT hlt13 ?_
        refine gok hn ?_
        refine qn77 _ _ ?_
        refine COk.seqQ fun Q78 qn78 qx78 qr78 => ?_
        refine COk.blkQ fun Q84 qn84 qe84 qx84 qr84 => ?_
        refine COk.seqQ fun Q85 qn85 qx85 qr85 => ?_
        refine gor hn ?_
        refine qn85 _ _ ?_
        refine COk.seqQ fun Q86 qn86 qx86 qr86 => ?_
        refine god hn (by kernel_rfl) ?_
        refine idxK hx12 ?_
        obtain ⟨x14, hx15, h7⟩ := bindM h7
        refine idxM hx15 ?_
        refine qn86 _ _ ?_
        refine goc hn ?_
        refine bselM h7 (fun hb16 h7 => ?_) (fun hb16 h7 => ?_)
        · refine COk.seqQ fun Q87 qn87 qx87 qr87 => ?_
          refine gor hn ?_
          refine qn87 _ _ ?_
          refine got hn ?_
          refine qr84 _ _ ?_
          refine qr78 _ _ ?_
          refine qr73 _ _ ?_
          refine qr72 _ _ ?_
          refine qr71 _ _ ?_
          refine qr50 _ _ ?_
          obtain rfl := Option.some.inj h7
          obtain rfl := Option.some.inj h
          exact ⟨[], _, rfl, (by repeat (first | exact trivial | exact rfl | (refine And.intro ?_ ?_))), trivial, rfl, rfl, rfl, rfl, rfl⟩
        · refine gok hn ?_
          refine qn84 _ _ ?_
          refine qn78 _ _ ?_
          refine gor hn ?_
          refine Or.inl (And.intro (inrK hx12 hl4) ?_)
          refine qn73 _ _ ?_
          refine EOk.done ?_
          exact ⟨⟨(rest8, k5 + 1), hd2, h7⟩, [], by show rest8.length < rest8.length + 1; omega, ⟨⟨(by repeat (first | exact trivial | exact rfl | (refine And.intro ?_ ?_))), (by repeat (first | exact trivial | exact rfl | (refine And.intro ?_ ?_))), rfl, rfl, trivial⟩, trivial, rfl, rfl⟩⟩
    rintro ⟨⟨⟩, rfl⟩
    refine qn50 _ _ ?_
    refine COk.seqQ fun Q88 qn88 qx88 qr88 => ?_
    refine gor hn ?_
    refine qn88 _ _ ?_
    refine got hn ?_
    obtain rfl := Option.some.inj h
    exact ⟨[], _, rfl, (by repeat (first | exact trivial | exact rfl | (refine And.intro ?_ ?_))), trivial, rfl, rfl, rfl, rfl, rfl⟩

/- qcref5.SameFast -/
set_option maxRecDepth 100000 in
set_option maxHeartbeats 1000000 in
theorem qcref5_SameFast_ok (N : Nat) (a0 : Fs) (a1 : Fs) (r : Bool) (h : qcref5_SameFast N a0 a1 = some r) : Spec Try.prog 26 [] [.agg (eFs a0), .agg (eFs a1)] (.bool r) [] [] := by
  refine Spec.of tabOk Try.func26 rfl Try.ntmps26 (by kernel_rfl) rfl rfl rfl fun Γ hn => ?_
  unfold qcref5_SameFast at h
  refine COk.seqQ fun Q4 qn4 qx4 qr4 => ?_
  refine gor hn ?_
  refine qn4 _ _ ?_
  refine COk.seqQ fun Q5 qn5 qx5 qr5 => ?_
  obtain ⟨o3, h2, h⟩ := bindM h
  refine COk.joinR (ι := { s : Bool // o3 = s }) (fun s => [(4, .bool s.1)]) (fun s => []) (fun Q6 qn6 qx6 qr6 => ?_) (by intro s; rw [hn]; rfl) ?_
  · refine gor hn ?_
    refine bselM h2 (fun hb4 h2 => ?_) (fun hb4 h2 => ?_)
    · refine bselT hb4 ?_
      refine bselT hb4 ?_
      refine bselT hb4 ?_
      refine bselT hb4 ?_
      refine bselT hb4 ?_
      refine bselM h2 (fun hb5 h2 => ?_) (fun hb5 h2 => ?_)
      · refine bselT hb5 ?_
        refine bselT hb5 ?_
        refine bselT hb5 ?_
        refine bselT hb5 ?_
        refine bselT hb5 ?_
        refine bselM h2 (fun hb6 h2 => ?_) (fun hb6 h2 => ?_)
        · refine bselT hb6 ?_
          refine bselT hb6 ?_
          refine bselT hb6 ?_
          refine bselT hb6 ?_
          refine bselT hb6 ?_
          refine bselM h2 (fun hb7 h2 => ?_) (fun hb7 h2 => ?_)
          · refine bselT hb7 ?_
            refine bselT hb7 ?_
            refine bselT hb7 ?_
            refine bselT hb7 ?_
            obtain ⟨r8, hr9, h2⟩ := bindM h2
            show CallOk Try.prog _ _ _ _
            refine CallOk.as (qcref1_SameCode_ok N a0.code a1.code r8 hr9) (by repeat (first | exact trivial | exact rfl | (refine And.intro ?_ ?_))) trivial rfl ?_
            refine bselT hb7 ?_
            refine qn6 _ _ ?_
            obtain rfl := Option.some.inj h2
            refine EOk.done ?_
            exact ⟨⟨_, rfl⟩, [], trivial, ⟨⟨rfl, trivial⟩, trivial, rfl, rfl⟩⟩
          · refine bselF hb7 ?_
            refine bselF hb7 ?_
            refine bselF hb7 ?_
            refine bselF hb7 ?_
            refine bselF hb7 ?_
            refine qn6 _ _ ?_
            obtain rfl := Option.some.inj h2
            refine EOk.done ?_
            exact ⟨⟨_, rfl⟩, [], trivial, ⟨⟨rfl, trivial⟩, trivial, rfl, rfl⟩⟩
        · refine bselF hb6 ?_
          refine bselF hb6 ?_
          refine bselF hb6 ?_
          refine bselF hb6 ?_
          refine bselF hb6 ?_
          refine qn6 _ _ ?_
          obtain rfl := Option.some.inj h2
          refine EOk.done ?_
          exact ⟨⟨_, rfl⟩, [], trivial, ⟨⟨rfl, trivial⟩, trivial, rfl, rfl⟩⟩
      · refine bselF hb5 ?_
        refine bselF hb5 ?_
        refine bselF hb5 ?_
        refine bselF hb5 ?_
        refine bselF hb5 ?_
        refine qn6 _ _ ?_
        obtain rfl := Option.some.inj h2
        refine EOk.done ?_
        exact ⟨⟨_, rfl⟩, [], trivial, ⟨⟨rfl, trivial⟩, trivial, rfl, rfl⟩⟩
    · refine bselF hb4 ?_
      refine bselF hb4 ?_
      refine bselF hb4 ?_
      refine bselF hb4 ?_
      refine bselF hb4 ?_
      refine qn6 _ _ ?_
      obtain rfl := Option.some.inj h2
      refine EOk.done ?_
      exact ⟨⟨_, rfl⟩, [], trivial, ⟨⟨rfl, trivial⟩, trivial, rfl, rfl⟩⟩
  rintro ⟨v1, hv_⟩
  replace hv_ := hv_.symm
  subst hv_
  refine qn5 _ _ ?_
  refine got hn ?_
  obtain rfl := Option.some.inj h
  exact ⟨[], _, rfl, (by repeat (first | exact trivial | exact rfl | (refine And.intro ?_ ?_))), trivial, rfl, rfl, rfl, rfl, rfl⟩

/- qclaw10.InlineTells -/
set_option maxRecDepth 100000 in
set_option maxHeartbeats 1000000 in
theorem qclaw10_InlineTells_ok (N : Nat) (a0 : Wd) (a1 : Int) (a2 : Int) (a3 : (List Int)) (r : Bool) (h : qclaw10_InlineTells N a0 a1 a2 a3 = some r) : Spec Try.prog 7 [] [.agg (eWd a0), .int a1, .int a2, .sl 1 (List.map eInt a3)] (.bool r) [] [] := by
  refine Spec.of tabOk Try.func7 rfl Try.ntmps7 (by kernel_rfl) rfl rfl rfl fun Γ hn => ?_
  unfold qclaw10_InlineTells at h
  refine COk.seqQ fun Q10 qn10 qx10 qr10 => ?_
  refine gor hn ?_
  refine qn10 _ _ ?_
  refine COk.seqQ fun Q11 qn11 qx11 qr11 => ?_
  refine COk.seqQ fun Q12 qn12 qx12 qr12 => ?_
  refine gor hn ?_
  obtain ⟨r1, hr2, h⟩ := bindM h
  show CallOk Try.prog _ _ _ _
  refine CallOk.as (qcref1_Right_ok N a0 r1 hr2) (by repeat (first | exact trivial | exact rfl | (refine And.intro ?_ ?_))) trivial rfl ?_
  refine qn12 _ _ ?_
  refine goc hn ?_
  refine bselM h (fun hb3 h => ?_) (fun hb3 h => ?_)
  · refine COk.seqQ fun Q14 qn14 qx14 qr14 => ?_
    refine gor hn ?_
    refine qn14 _ _ ?_
    refine got hn ?_
    refine qr11 _ _ ?_
    obtain rfl := Option.some.inj h
    exact ⟨[], _, rfl, (by repeat (first | exact trivial | exact rfl | (refine And.intro ?_ ?_))), trivial, rfl, rfl, rfl, rfl, rfl⟩
  · refine gok hn ?_
    refine qn11 _ _ ?_
    refine COk.seqQ fun Q15 qn15 qx15 qr15 => ?_
    refine gor hn ?_
    obtain ⟨r4, hr5, h⟩ := bindM h
    show CallOk Try.prog _ _ _ _
    refine CallOk.as (inline_Method_ok N a0 a1 a2 a3 r4 hr5) (by repeat (first | exact trivial | exact rfl | (refine And.intro ?_ ?_))) trivial rfl ?_
    refine qn15 _ _ ?_
    refine COk.seqQ fun Q16 qn16 qx16 qr16 => ?_
    refine COk.sub (ts2 := [(1, .int a1), (2, .int a2), (3, .sl 1 (List.map eInt a3)), (4, .ptr 4 0), (9, .ptr 9 0), (10, .bool r4.2)]) (os2 := [(4, .box (eWd a0) 26), (9, .box (eFs r4.1) 53)]) [] ⟨⟨rfl, rfl, (by repeat (first | exact trivial | exact rfl | (refine And.intro ?_ ?_))), rfl, rfl, rfl, trivial⟩, ⟨rfl, rfl, trivial⟩, rfl, rfl⟩ (by rw [hn]; rfl) ?_
    refine gor hn ?_
    obtain ⟨r6, hr7, h⟩ := bindM h
    show CallOk Try.prog _ _ _ _
    refine CallOk.as (qcref5_Fast_ok N a0 a1 a2 a3 r6 hr7) (by repeat (first | exact trivial | exact rfl | (refine And.intro ?_ ?_))) trivial rfl ?_
    refine qn16 _ _ ?_
    refine COk.seqQ fun Q17 qn17 qx17 qr17 => ?_
    obtain ⟨o10, h9, h⟩ := bindM h
    refine COk.joinR (ι := { s : Bool // o10 = s }) (fun s => [(8, .bool s.1)]) (fun s => []) (fun Q18 qn18 qx18 qr18 => ?_) (by intro s; rw [hn]; rfl) ?_
    · refine gor hn ?_
      refine bselM h9 (fun hb11 h9 => ?_) (fun hb11 h9 => ?_)
      · refine bselT hb11 ?_
        refine bselT hb11 ?_
        obtain ⟨r12, hr13, h9⟩ := bindM h9
        show CallOk Try.prog _ _ _ _
        refine CallOk.as (qcref5_SameFast_ok N r4.1 r6.1 r12 hr13) (by repeat (first | exact trivial | exact rfl | (refine And.intro ?_ ?_))) trivial rfl ?_
        refine bselT hb11 ?_
        refine qn18 _ _ ?_
        obtain rfl := Option.some.inj h9
        refine EOk.done ?_
        exact ⟨⟨_, rfl⟩, [], trivial, ⟨⟨rfl, trivial⟩, trivial, rfl, rfl⟩⟩
      · refine bselF hb11 ?_
        refine bselF hb11 ?_
        refine bselF hb11 ?_
        refine qn18 _ _ ?_
        obtain rfl := Option.some.inj h9
        refine EOk.done ?_
        exact ⟨⟨_, rfl⟩, [], trivial, ⟨⟨rfl, trivial⟩, trivial, rfl, rfl⟩⟩
    rintro ⟨v8, hv_⟩
    replace hv_ := hv_.symm
    subst hv_
    refine qn17 _ _ ?_
    refine got hn ?_
    obtain rfl := Option.some.inj h
    exact ⟨[], _, rfl, (by repeat (first | exact trivial | exact rfl | (refine And.intro ?_ ?_))), trivial, rfl, rfl, rfl, rfl, rfl⟩
end Go.Proofs.Ytoceeiamcfdnlaa
