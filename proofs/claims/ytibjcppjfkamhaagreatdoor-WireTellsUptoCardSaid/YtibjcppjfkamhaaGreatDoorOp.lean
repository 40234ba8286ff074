/- How arguments that read as data read as plain data. Printed by law.py. -/
import Derived.Test.YtibjcppjfkamhaaGreatDoorOk
import Derived.Test.YtibjcppjfkamhaaGreatDoorProg
import Derived.Test.YtibjcppjfkamhaaGreatDoorYlaw
namespace Go.Proofs.YtibjcppjfkamhaaGreatDoor
open Go.ChangeShapes Go.WideShapes Go.ChangeAt Go.RowKit Go.Deep
set_option linter.unusedVariables false
set_option maxRecDepth 100000 in
theorem cS0 : G8 Tryz.prog 55 5 aG9 b06 aP4:=⟨fun {H eH w sp held fuel cs x} h=>by
  obtain ⟨xs,n,_,hx,hlen,hxl,hf⟩:=DataW.trod_struct Tryz.underlying55 h
  have h2:cs.length=5:=hlen.trans (by kernel_rfl)
  have h3:xs.length=5:=hxl
  have ce3:Tryz.prog.cellsOf 3=1:=by kernel_rfl
  have ce9:Tryz.prog.cellsOf 9=1:=by kernel_rfl
  match cs,h2,xs,h3 with
  |[c0,c1,c2,c3,c4],_,[y0,y1,y2,y3,y4],_ =>
    have f0:DataW.trod eH Tryz.prog w 0 sp held n 3 [c0]=some y0:=by simpa [ce3] using hf 0 _ rfl
    obtain ⟨a0,r0,l0,o0,k0,b0⟩:=(G8.int Tryz.underlying3).out f0
    have f1:DataW.trod eH Tryz.prog w 0 sp held n 3 [c1]=some y1:=by simpa [ce3] using hf 1 _ rfl
    obtain ⟨a1,r1,l1,o1,k1,b1⟩:=(G8.int Tryz.underlying3).out f1
    have f2:DataW.trod eH Tryz.prog w 0 sp held n 3 [c2]=some y2:=by simpa [ce3] using hf 2 _ rfl
    obtain ⟨a2,r2,l2,o2,k2,b2⟩:=(G8.int Tryz.underlying3).out f2
    have f3:DataW.trod eH Tryz.prog w 0 sp held n 3 [c3]=some y3:=by simpa [ce3] using hf 3 _ rfl
    obtain ⟨a3,r3,l3,o3,k3,b3⟩:=(G8.int Tryz.underlying3).out f3
    have f4:DataW.trod eH Tryz.prog w 0 sp held n 9 [c4]=some y4:=by simpa [ce9] using hf 4 _ rfl
    obtain ⟨a4,r4,l4,o4,k4,b4⟩:=(G8.str Tryz.underlying9).out f4
    refine ⟨⟨a0,a1,a2,a3,a4⟩,(r0.append (r1.append (r2.append (r3.append r4)))),rfl,fun u hu=>?_,⟨k0,k1,k2,k3,k4⟩,?_⟩
    · have hu:u∈[c0]++[c1]++[c2]++[c3]++[c4]:=hu
      simp only [List.mem_append] at hu
      rcases hu with (((hu|hu)|hu)|hu)|hu
      · exact o0 u hu
      · exact o1 u hu
      · exact o2 u hu
      · exact o3 u hu
      · exact o4 u hu
    · subst hx
      simp only [List.map_cons,List.map_nil,Rows.uptoBulk,Rows.uptoBulkAll,aP4]
      omega⟩
theorem cS4 : G8 Tryz.prog 25 1 (fun l:(List Ins)=>[AV.sl 5 (l.map aG9)]) (okL b06) (bkL aP4):=G8.slice Tryz.underlying25 (by kernel_rfl) (by decide) cS0
set_option maxRecDepth 100000 in
theorem cR0 : G8 Tryz.prog 27 5 Z6 b97 aQ2:=⟨fun {H eH w sp held fuel cs x} h=>by
  obtain ⟨xs,n,_,hx,hlen,hxl,hf⟩:=DataW.trod_struct Tryz.underlying27 h
  have h2:cs.length=5:=hlen.trans (by kernel_rfl)
  have h3:xs.length=5:=hxl
  have ce3:Tryz.prog.cellsOf 3=1:=by kernel_rfl
  have ce9:Tryz.prog.cellsOf 9=1:=by kernel_rfl
  have ce25:Tryz.prog.cellsOf 25=1:=by kernel_rfl
  match cs,h2,xs,h3 with
  |[c0,c1,c2,c3,c4],_,[y0,y1,y2,y3,y4],_ =>
    have f0:DataW.trod eH Tryz.prog w 0 sp held n 9 [c0]=some y0:=by simpa [ce9] using hf 0 _ rfl
    obtain ⟨a0,r0,l0,o0,k0,b0⟩:=(G8.str Tryz.underlying9).out f0
    have f1:DataW.trod eH Tryz.prog w 0 sp held n 3 [c1]=some y1:=by simpa [ce3] using hf 1 _ rfl
    obtain ⟨a1,r1,l1,o1,k1,b1⟩:=(G8.int Tryz.underlying3).out f1
    have f2:DataW.trod eH Tryz.prog w 0 sp held n 3 [c2]=some y2:=by simpa [ce3] using hf 2 _ rfl
    obtain ⟨a2,r2,l2,o2,k2,b2⟩:=(G8.int Tryz.underlying3).out f2
    have f3:DataW.trod eH Tryz.prog w 0 sp held n 3 [c3]=some y3:=by simpa [ce3] using hf 3 _ rfl
    obtain ⟨a3,r3,l3,o3,k3,b3⟩:=(G8.int Tryz.underlying3).out f3
    have f4:DataW.trod eH Tryz.prog w 0 sp held n 25 [c4]=some y4:=by simpa [ce25] using hf 4 _ rfl
    obtain ⟨a4,r4,l4,o4,k4,b4⟩:=cS4.out f4
    refine ⟨⟨a0,a1,a2,a3,a4⟩,(r0.append (r1.append (r2.append (r3.append r4)))),rfl,fun u hu=>?_,⟨k0,k1,k2,k3,k4⟩,?_⟩
    · have hu:u∈[c0]++[c1]++[c2]++[c3]++[c4]:=hu
      simp only [List.mem_append] at hu
      rcases hu with (((hu|hu)|hu)|hu)|hu
      · exact o0 u hu
      · exact o1 u hu
      · exact o2 u hu
      · exact o3 u hu
      · exact o4 u hu
    · subst hx
      simp only [List.map_cons,List.map_nil,Rows.uptoBulk,Rows.uptoBulkAll,aQ2]
      omega⟩
theorem cT4 : G8 Tryz.prog 79 1 (fun l:(List Me)=>[AV.sl 5 (l.map Z6)]) (okL b97) (bkL aQ2):=G8.slice Tryz.underlying79 (by kernel_rfl) (by decide) cR0
set_option maxRecDepth 100000 in
theorem cT0 : G8 Tryz.prog 81 4 eCl cA6 aT2:=⟨fun {H eH w sp held fuel cs x} h=>by
  obtain ⟨xs,n,_,hx,hlen,hxl,hf⟩:=DataW.trod_struct Tryz.underlying81 h
  have h2:cs.length=4:=hlen.trans (by kernel_rfl)
  have h3:xs.length=4:=hxl
  have ce3:Tryz.prog.cellsOf 3=1:=by kernel_rfl
  have ce9:Tryz.prog.cellsOf 9=1:=by kernel_rfl
  have ce79:Tryz.prog.cellsOf 79=1:=by kernel_rfl
  match cs,h2,xs,h3 with
  |[c0,c1,c2,c3],_,[y0,y1,y2,y3],_ =>
    have f0:DataW.trod eH Tryz.prog w 0 sp held n 9 [c0]=some y0:=by simpa [ce9] using hf 0 _ rfl
    obtain ⟨a0,r0,l0,o0,k0,b0⟩:=(G8.str Tryz.underlying9).out f0
    have f1:DataW.trod eH Tryz.prog w 0 sp held n 3 [c1]=some y1:=by simpa [ce3] using hf 1 _ rfl
    obtain ⟨a1,r1,l1,o1,k1,b1⟩:=(G8.int Tryz.underlying3).out f1
    have f2:DataW.trod eH Tryz.prog w 0 sp held n 3 [c2]=some y2:=by simpa [ce3] using hf 2 _ rfl
    obtain ⟨a2,r2,l2,o2,k2,b2⟩:=(G8.int Tryz.underlying3).out f2
    have f3:DataW.trod eH Tryz.prog w 0 sp held n 79 [c3]=some y3:=by simpa [ce79] using hf 3 _ rfl
    obtain ⟨a3,r3,l3,o3,k3,b3⟩:=cT4.out f3
    refine ⟨⟨a0,a1,a2,a3⟩,(r0.append (r1.append (r2.append r3))),rfl,fun u hu=>?_,⟨k0,k1,k2,k3⟩,?_⟩
    · have hu:u∈[c0]++[c1]++[c2]++[c3]:=hu
      simp only [List.mem_append] at hu
      rcases hu with ((hu|hu)|hu)|hu
      · exact o0 u hu
      · exact o1 u hu
      · exact o2 u hu
      · exact o3 u hu
    · subst hx
      simp only [List.map_cons,List.map_nil,Rows.uptoBulk,Rows.uptoBulkAll,aT2]
      omega⟩
theorem cQ0 : G8 Tryz.prog 37 1 (fun l:(List Cl)=>[AV.sl 4 (l.map eCl)]) (okL cA6) (bkL aT2):=G8.slice Tryz.underlying37 (by kernel_rfl) (by decide) cT0
set_option maxRecDepth 100000 in
theorem cT2 : G8 Tryz.prog 29 2 eV okV bkV:=⟨fun {H eH w sp held fuel cs x} h=>by
  obtain ⟨xs,n,_,hx,hlen,hxl,hf⟩:=DataW.trod_struct Tryz.underlying29 h
  have h2:cs.length=2:=hlen.trans (by kernel_rfl)
  have h3:xs.length=2:=hxl
  have ce3:Tryz.prog.cellsOf 3=1:=by kernel_rfl
  match cs,h2,xs,h3 with
  |[c0,c1],_,[y0,y1],_ =>
    have f0:DataW.trod eH Tryz.prog w 0 sp held n 3 [c0]=some y0:=by simpa [ce3] using hf 0 _ rfl
    obtain ⟨a0,r0,l0,o0,k0,b0⟩:=(G8.int Tryz.underlying3).out f0
    have f1:DataW.trod eH Tryz.prog w 0 sp held n 3 [c1]=some y1:=by simpa [ce3] using hf 1 _ rfl
    obtain ⟨a1,r1,l1,o1,k1,b1⟩:=(G8.int Tryz.underlying3).out f1
    refine ⟨⟨a0,a1⟩,(r0.append r1),rfl,fun u hu=>?_,⟨k0,k1⟩,?_⟩
    · have hu:u∈[c0]++[c1]:=hu
      simp only [List.mem_append] at hu
      rcases hu with hu|hu
      · exact o0 u hu
      · exact o1 u hu
    · subst hx
      simp only [List.map_cons,List.map_nil,Rows.uptoBulk,Rows.uptoBulkAll,bkV]
      omega⟩
theorem cT7 : G8 Tryz.prog 30 1 (fun l:(List V)=>[AV.sl 2 (l.map eV)]) (okL okV) (bkL bkV):=G8.slice Tryz.underlying30 (by kernel_rfl) (by decide) cT2
set_option maxRecDepth 100000 in
theorem cR6 : G8 Tryz.prog 92 2 eOb cB9 aS9:=⟨fun {H eH w sp held fuel cs x} h=>by
  obtain ⟨xs,n,_,hx,hlen,hxl,hf⟩:=DataW.trod_struct Tryz.underlying92 h
  have h2:cs.length=2:=hlen.trans (by kernel_rfl)
  have h3:xs.length=2:=hxl
  have ce3:Tryz.prog.cellsOf 3=1:=by kernel_rfl
  have ce30:Tryz.prog.cellsOf 30=1:=by kernel_rfl
  match cs,h2,xs,h3 with
  |[c0,c1],_,[y0,y1],_ =>
    have f0:DataW.trod eH Tryz.prog w 0 sp held n 3 [c0]=some y0:=by simpa [ce3] using hf 0 _ rfl
    obtain ⟨a0,r0,l0,o0,k0,b0⟩:=(G8.int Tryz.underlying3).out f0
    have f1:DataW.trod eH Tryz.prog w 0 sp held n 30 [c1]=some y1:=by simpa [ce30] using hf 1 _ rfl
    obtain ⟨a1,r1,l1,o1,k1,b1⟩:=cT7.out f1
    refine ⟨⟨a0,a1⟩,(r0.append r1),rfl,fun u hu=>?_,⟨k0,k1⟩,?_⟩
    · have hu:u∈[c0]++[c1]:=hu
      simp only [List.mem_append] at hu
      rcases hu with hu|hu
      · exact o0 u hu
      · exact o1 u hu
    · subst hx
      simp only [List.map_cons,List.map_nil,Rows.uptoBulk,Rows.uptoBulkAll,aS9]
      omega⟩
theorem cT3 : G8 Tryz.prog 38 1 (fun l:(List Ob)=>[AV.sl 2 (l.map eOb)]) (okL cB9) (bkL aS9):=G8.slice Tryz.underlying38 (by kernel_rfl) (by decide) cR6
set_option maxRecDepth 100000 in
theorem cQ7 : G8 Tryz.prog 40 3 eWd cC6 bG3:=⟨fun {H eH w sp held fuel cs x} h=>by
  obtain ⟨xs,n,_,hx,hlen,hxl,hf⟩:=DataW.trod_struct Tryz.underlying40 h
  have h2:cs.length=3:=hlen.trans (by kernel_rfl)
  have h3:xs.length=3:=hxl
  have ce3:Tryz.prog.cellsOf 3=1:=by kernel_rfl
  have ce37:Tryz.prog.cellsOf 37=1:=by kernel_rfl
  have ce38:Tryz.prog.cellsOf 38=1:=by kernel_rfl
  match cs,h2,xs,h3 with
  |[c0,c1,c2],_,[y0,y1,y2],_ =>
    have f0:DataW.trod eH Tryz.prog w 0 sp held n 37 [c0]=some y0:=by simpa [ce37] using hf 0 _ rfl
    obtain ⟨a0,r0,l0,o0,k0,b0⟩:=cQ0.out f0
    have f1:DataW.trod eH Tryz.prog w 0 sp held n 38 [c1]=some y1:=by simpa [ce38] using hf 1 _ rfl
    obtain ⟨a1,r1,l1,o1,k1,b1⟩:=cT3.out f1
    have f2:DataW.trod eH Tryz.prog w 0 sp held n 3 [c2]=some y2:=by simpa [ce3] using hf 2 _ rfl
    obtain ⟨a2,r2,l2,o2,k2,b2⟩:=(G8.int Tryz.underlying3).out f2
    refine ⟨⟨a0,a1,a2⟩,(r0.append (r1.append r2)),rfl,fun u hu=>?_,⟨k0,k1,k2⟩,?_⟩
    · have hu:u∈[c0]++[c1]++[c2]:=hu
      simp only [List.mem_append] at hu
      rcases hu with (hu|hu)|hu
      · exact o0 u hu
      · exact o1 u hu
      · exact o2 u hu
    · subst hx
      simp only [List.map_cons,List.map_nil,Rows.uptoBulk,Rows.uptoBulkAll,bG3]
      omega⟩
theorem cS3 : G8 Tryz.prog 43 1 (fun l:(List Int)=>[AV.sl 1 (l.map (eIk .u8))]) (okL okI) (bkL bkI):=G8.slice Tryz.underlying43 (by kernel_rfl) (by decide) (G8.u8 Tryz.underlying5)
end Go.Proofs.YtibjcppjfkamhaaGreatDoor
