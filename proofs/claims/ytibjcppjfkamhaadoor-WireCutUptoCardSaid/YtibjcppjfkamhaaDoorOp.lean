/- How arguments that read as data read as plain data. Printed by law.py. -/
import Derived.Test.YtibjcppjfkamhaaDoorOk
import Derived.Test.YtibjcppjfkamhaaDoorProg
import Derived.Test.YtibjcppjfkamhaaDoorYlaw
namespace Go.Proofs.YtibjcppjfkamhaaDoor
open Go.ChangeShapes Go.WideShapes Go.ChangeAt Go.RowKit Go.Deep
set_option linter.unusedVariables false
set_option maxRecDepth 100000 in
theorem cE6 : F4 Tryd.prog 77 5 aX5 bM6 aH3:=⟨fun {H eH w sp held fuel cs x} h=>by
  obtain ⟨xs,n,_,hx,hlen,hxl,hf⟩:=DataW.trod_struct Tryd.underlying77 h
  have h2:cs.length=5:=hlen.trans (by kernel_rfl)
  have h3:xs.length=5:=hxl
  have ce3:Tryd.prog.cellsOf 3=1:=by kernel_rfl
  have ce9:Tryd.prog.cellsOf 9=1:=by kernel_rfl
  match cs,h2,xs,h3 with
  |[c0,c1,c2,c3,c4],_,[y0,y1,y2,y3,y4],_ =>
    have f0:DataW.trod eH Tryd.prog w 0 sp held n 3 [c0]=some y0:=by simpa [ce3] using hf 0 _ rfl
    obtain ⟨a0,r0,l0,o0,k0,b0⟩:=(F4.int Tryd.underlying3).out f0
    have f1:DataW.trod eH Tryd.prog w 0 sp held n 3 [c1]=some y1:=by simpa [ce3] using hf 1 _ rfl
    obtain ⟨a1,r1,l1,o1,k1,b1⟩:=(F4.int Tryd.underlying3).out f1
    have f2:DataW.trod eH Tryd.prog w 0 sp held n 3 [c2]=some y2:=by simpa [ce3] using hf 2 _ rfl
    obtain ⟨a2,r2,l2,o2,k2,b2⟩:=(F4.int Tryd.underlying3).out f2
    have f3:DataW.trod eH Tryd.prog w 0 sp held n 3 [c3]=some y3:=by simpa [ce3] using hf 3 _ rfl
    obtain ⟨a3,r3,l3,o3,k3,b3⟩:=(F4.int Tryd.underlying3).out f3
    have f4:DataW.trod eH Tryd.prog w 0 sp held n 9 [c4]=some y4:=by simpa [ce9] using hf 4 _ rfl
    obtain ⟨a4,r4,l4,o4,k4,b4⟩:=(F4.str Tryd.underlying9).out f4
    refine ⟨⟨a0,a1,a2,a3,a4⟩,(r0.append (r1.append (r2.append (r3.append r4)))),rfl,fun u hu=>?_,⟨k0,k1,k2,k3,k4⟩,?_⟩
    · have hu:u∈[c0]++[c1]++[c2]++[c3]++[c4]:=hu
      simp only [List.mem_append] at hu
      rcases hu with (((hu|hu)|hu)|hu)|hu
      · exact o0 u hu
      · exact o1 u hu
      · exact o2 u hu
      · exact o3 u hu
      · exact o4 u hu
    · subst hx
      simp only [List.map_cons,List.map_nil,Rows.uptoBulk,Rows.uptoBulkAll,aH3]
      omega⟩
theorem cE9 : F4 Tryd.prog 44 1 (fun l:(List Ins)=>[AV.sl 5 (l.map aX5)]) (okL bM6) (bkL aH3):=F4.slice Tryd.underlying44 (by kernel_rfl) (by decide) cE6
set_option maxRecDepth 100000 in
theorem cF6 : F4 Tryd.prog 46 5 X5 bZ7 aJ2:=⟨fun {H eH w sp held fuel cs x} h=>by
  obtain ⟨xs,n,_,hx,hlen,hxl,hf⟩:=DataW.trod_struct Tryd.underlying46 h
  have h2:cs.length=5:=hlen.trans (by kernel_rfl)
  have h3:xs.length=5:=hxl
  have ce3:Tryd.prog.cellsOf 3=1:=by kernel_rfl
  have ce9:Tryd.prog.cellsOf 9=1:=by kernel_rfl
  have ce44:Tryd.prog.cellsOf 44=1:=by kernel_rfl
  match cs,h2,xs,h3 with
  |[c0,c1,c2,c3,c4],_,[y0,y1,y2,y3,y4],_ =>
    have f0:DataW.trod eH Tryd.prog w 0 sp held n 9 [c0]=some y0:=by simpa [ce9] using hf 0 _ rfl
    obtain ⟨a0,r0,l0,o0,k0,b0⟩:=(F4.str Tryd.underlying9).out f0
    have f1:DataW.trod eH Tryd.prog w 0 sp held n 3 [c1]=some y1:=by simpa [ce3] using hf 1 _ rfl
    obtain ⟨a1,r1,l1,o1,k1,b1⟩:=(F4.int Tryd.underlying3).out f1
    have f2:DataW.trod eH Tryd.prog w 0 sp held n 3 [c2]=some y2:=by simpa [ce3] using hf 2 _ rfl
    obtain ⟨a2,r2,l2,o2,k2,b2⟩:=(F4.int Tryd.underlying3).out f2
    have f3:DataW.trod eH Tryd.prog w 0 sp held n 3 [c3]=some y3:=by simpa [ce3] using hf 3 _ rfl
    obtain ⟨a3,r3,l3,o3,k3,b3⟩:=(F4.int Tryd.underlying3).out f3
    have f4:DataW.trod eH Tryd.prog w 0 sp held n 44 [c4]=some y4:=by simpa [ce44] using hf 4 _ rfl
    obtain ⟨a4,r4,l4,o4,k4,b4⟩:=cE9.out f4
    refine ⟨⟨a0,a1,a2,a3,a4⟩,(r0.append (r1.append (r2.append (r3.append r4)))),rfl,fun u hu=>?_,⟨k0,k1,k2,k3,k4⟩,?_⟩
    · have hu:u∈[c0]++[c1]++[c2]++[c3]++[c4]:=hu
      simp only [List.mem_append] at hu
      rcases hu with (((hu|hu)|hu)|hu)|hu
      · exact o0 u hu
      · exact o1 u hu
      · exact o2 u hu
      · exact o3 u hu
      · exact o4 u hu
    · subst hx
      simp only [List.map_cons,List.map_nil,Rows.uptoBulk,Rows.uptoBulkAll,aJ2]
      omega⟩
theorem cF7 : F4 Tryd.prog 39 1 (fun l:(List Me)=>[AV.sl 5 (l.map X5)]) (okL bZ7) (bkL aJ2):=F4.slice Tryd.underlying39 (by kernel_rfl) (by decide) cF6
set_option maxRecDepth 100000 in
theorem cG2 : F4 Tryd.prog 41 4 eCl bO1 aL2:=⟨fun {H eH w sp held fuel cs x} h=>by
  obtain ⟨xs,n,_,hx,hlen,hxl,hf⟩:=DataW.trod_struct Tryd.underlying41 h
  have h2:cs.length=4:=hlen.trans (by kernel_rfl)
  have h3:xs.length=4:=hxl
  have ce3:Tryd.prog.cellsOf 3=1:=by kernel_rfl
  have ce9:Tryd.prog.cellsOf 9=1:=by kernel_rfl
  have ce39:Tryd.prog.cellsOf 39=1:=by kernel_rfl
  match cs,h2,xs,h3 with
  |[c0,c1,c2,c3],_,[y0,y1,y2,y3],_ =>
    have f0:DataW.trod eH Tryd.prog w 0 sp held n 9 [c0]=some y0:=by simpa [ce9] using hf 0 _ rfl
    obtain ⟨a0,r0,l0,o0,k0,b0⟩:=(F4.str Tryd.underlying9).out f0
    have f1:DataW.trod eH Tryd.prog w 0 sp held n 3 [c1]=some y1:=by simpa [ce3] using hf 1 _ rfl
    obtain ⟨a1,r1,l1,o1,k1,b1⟩:=(F4.int Tryd.underlying3).out f1
    have f2:DataW.trod eH Tryd.prog w 0 sp held n 3 [c2]=some y2:=by simpa [ce3] using hf 2 _ rfl
    obtain ⟨a2,r2,l2,o2,k2,b2⟩:=(F4.int Tryd.underlying3).out f2
    have f3:DataW.trod eH Tryd.prog w 0 sp held n 39 [c3]=some y3:=by simpa [ce39] using hf 3 _ rfl
    obtain ⟨a3,r3,l3,o3,k3,b3⟩:=cF7.out f3
    refine ⟨⟨a0,a1,a2,a3⟩,(r0.append (r1.append (r2.append r3))),rfl,fun u hu=>?_,⟨k0,k1,k2,k3⟩,?_⟩
    · have hu:u∈[c0]++[c1]++[c2]++[c3]:=hu
      simp only [List.mem_append] at hu
      rcases hu with ((hu|hu)|hu)|hu
      · exact o0 u hu
      · exact o1 u hu
      · exact o2 u hu
      · exact o3 u hu
    · subst hx
      simp only [List.map_cons,List.map_nil,Rows.uptoBulk,Rows.uptoBulkAll,aL2]
      omega⟩
theorem cH8 : F4 Tryd.prog 22 1 (fun l:(List Cl)=>[AV.sl 4 (l.map eCl)]) (okL bO1) (bkL aL2):=F4.slice Tryd.underlying22 (by kernel_rfl) (by decide) cG2
set_option maxRecDepth 100000 in
theorem cG9 : F4 Tryd.prog 70 2 eV okV bkV:=⟨fun {H eH w sp held fuel cs x} h=>by
  obtain ⟨xs,n,_,hx,hlen,hxl,hf⟩:=DataW.trod_struct Tryd.underlying70 h
  have h2:cs.length=2:=hlen.trans (by kernel_rfl)
  have h3:xs.length=2:=hxl
  have ce3:Tryd.prog.cellsOf 3=1:=by kernel_rfl
  match cs,h2,xs,h3 with
  |[c0,c1],_,[y0,y1],_ =>
    have f0:DataW.trod eH Tryd.prog w 0 sp held n 3 [c0]=some y0:=by simpa [ce3] using hf 0 _ rfl
    obtain ⟨a0,r0,l0,o0,k0,b0⟩:=(F4.int Tryd.underlying3).out f0
    have f1:DataW.trod eH Tryd.prog w 0 sp held n 3 [c1]=some y1:=by simpa [ce3] using hf 1 _ rfl
    obtain ⟨a1,r1,l1,o1,k1,b1⟩:=(F4.int Tryd.underlying3).out f1
    refine ⟨⟨a0,a1⟩,(r0.append r1),rfl,fun u hu=>?_,⟨k0,k1⟩,?_⟩
    · have hu:u∈[c0]++[c1]:=hu
      simp only [List.mem_append] at hu
      rcases hu with hu|hu
      · exact o0 u hu
      · exact o1 u hu
    · subst hx
      simp only [List.map_cons,List.map_nil,Rows.uptoBulk,Rows.uptoBulkAll,bkV]
      omega⟩
theorem cH4 : F4 Tryd.prog 66 1 (fun l:(List V)=>[AV.sl 2 (l.map eV)]) (okL okV) (bkL bkV):=F4.slice Tryd.underlying66 (by kernel_rfl) (by decide) cG9
set_option maxRecDepth 100000 in
theorem cF3 : F4 Tryd.prog 68 2 eOb bY0 aL4:=⟨fun {H eH w sp held fuel cs x} h=>by
  obtain ⟨xs,n,_,hx,hlen,hxl,hf⟩:=DataW.trod_struct Tryd.underlying68 h
  have h2:cs.length=2:=hlen.trans (by kernel_rfl)
  have h3:xs.length=2:=hxl
  have ce3:Tryd.prog.cellsOf 3=1:=by kernel_rfl
  have ce66:Tryd.prog.cellsOf 66=1:=by kernel_rfl
  match cs,h2,xs,h3 with
  |[c0,c1],_,[y0,y1],_ =>
    have f0:DataW.trod eH Tryd.prog w 0 sp held n 3 [c0]=some y0:=by simpa [ce3] using hf 0 _ rfl
    obtain ⟨a0,r0,l0,o0,k0,b0⟩:=(F4.int Tryd.underlying3).out f0
    have f1:DataW.trod eH Tryd.prog w 0 sp held n 66 [c1]=some y1:=by simpa [ce66] using hf 1 _ rfl
    obtain ⟨a1,r1,l1,o1,k1,b1⟩:=cH4.out f1
    refine ⟨⟨a0,a1⟩,(r0.append r1),rfl,fun u hu=>?_,⟨k0,k1⟩,?_⟩
    · have hu:u∈[c0]++[c1]:=hu
      simp only [List.mem_append] at hu
      rcases hu with hu|hu
      · exact o0 u hu
      · exact o1 u hu
    · subst hx
      simp only [List.map_cons,List.map_nil,Rows.uptoBulk,Rows.uptoBulkAll,aL4]
      omega⟩
theorem cE8 : F4 Tryd.prog 23 1 (fun l:(List Ob)=>[AV.sl 2 (l.map eOb)]) (okL bY0) (bkL aL4):=F4.slice Tryd.underlying23 (by kernel_rfl) (by decide) cF3
set_option maxRecDepth 100000 in
theorem cF1 : F4 Tryd.prog 25 3 eWd bQ4 aV2:=⟨fun {H eH w sp held fuel cs x} h=>by
  obtain ⟨xs,n,_,hx,hlen,hxl,hf⟩:=DataW.trod_struct Tryd.underlying25 h
  have h2:cs.length=3:=hlen.trans (by kernel_rfl)
  have h3:xs.length=3:=hxl
  have ce3:Tryd.prog.cellsOf 3=1:=by kernel_rfl
  have ce22:Tryd.prog.cellsOf 22=1:=by kernel_rfl
  have ce23:Tryd.prog.cellsOf 23=1:=by kernel_rfl
  match cs,h2,xs,h3 with
  |[c0,c1,c2],_,[y0,y1,y2],_ =>
    have f0:DataW.trod eH Tryd.prog w 0 sp held n 22 [c0]=some y0:=by simpa [ce22] using hf 0 _ rfl
    obtain ⟨a0,r0,l0,o0,k0,b0⟩:=cH8.out f0
    have f1:DataW.trod eH Tryd.prog w 0 sp held n 23 [c1]=some y1:=by simpa [ce23] using hf 1 _ rfl
    obtain ⟨a1,r1,l1,o1,k1,b1⟩:=cE8.out f1
    have f2:DataW.trod eH Tryd.prog w 0 sp held n 3 [c2]=some y2:=by simpa [ce3] using hf 2 _ rfl
    obtain ⟨a2,r2,l2,o2,k2,b2⟩:=(F4.int Tryd.underlying3).out f2
    refine ⟨⟨a0,a1,a2⟩,(r0.append (r1.append r2)),rfl,fun u hu=>?_,⟨k0,k1,k2⟩,?_⟩
    · have hu:u∈[c0]++[c1]++[c2]:=hu
      simp only [List.mem_append] at hu
      rcases hu with (hu|hu)|hu
      · exact o0 u hu
      · exact o1 u hu
      · exact o2 u hu
    · subst hx
      simp only [List.map_cons,List.map_nil,Rows.uptoBulk,Rows.uptoBulkAll,aV2]
      omega⟩
end Go.Proofs.YtibjcppjfkamhaaDoor
