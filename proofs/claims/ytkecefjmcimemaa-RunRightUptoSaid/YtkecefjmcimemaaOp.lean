/- How arguments that read as data read as plain data. Printed by law.py. -/
import Derived.Test.YtkecefjmcimemaaOk
import Derived.Test.YtkecefjmcimemaaProg
namespace Go.Proofs.Ytkecefjmcimemaa
open Go.ChangeShapes Go.WideShapes Go.ChangeAt Go.RowKit Go.Deep
set_option linter.unusedVariables false
set_option maxRecDepth 100000 in
theorem open_60 : Opens Try.prog 60 5 eIns okIns bkIns:=⟨fun {H eH w sp held fuel cs x} h=>by
  obtain ⟨xs,n,_,hx,hlen,hxl,hf⟩:=DataW.trod_struct Try.underlying60 h
  have h2:cs.length=5:=hlen.trans (by kernel_rfl)
  have h3:xs.length=5:=hxl
  have ce3:Try.prog.cellsOf 3=1:=by kernel_rfl
  have ce9:Try.prog.cellsOf 9=1:=by kernel_rfl
  match cs,h2,xs,h3 with
  |[c0,c1,c2,c3,c4],_,[y0,y1,y2,y3,y4],_ =>
    have f0:DataW.trod eH Try.prog w 0 sp held n 3 [c0]=some y0:=by simpa [ce3] using hf 0 _ rfl
    obtain ⟨a0,r0,l0,o0,k0,b0⟩:=(Opens.int Try.underlying3).out f0
    have f1:DataW.trod eH Try.prog w 0 sp held n 3 [c1]=some y1:=by simpa [ce3] using hf 1 _ rfl
    obtain ⟨a1,r1,l1,o1,k1,b1⟩:=(Opens.int Try.underlying3).out f1
    have f2:DataW.trod eH Try.prog w 0 sp held n 3 [c2]=some y2:=by simpa [ce3] using hf 2 _ rfl
    obtain ⟨a2,r2,l2,o2,k2,b2⟩:=(Opens.int Try.underlying3).out f2
    have f3:DataW.trod eH Try.prog w 0 sp held n 3 [c3]=some y3:=by simpa [ce3] using hf 3 _ rfl
    obtain ⟨a3,r3,l3,o3,k3,b3⟩:=(Opens.int Try.underlying3).out f3
    have f4:DataW.trod eH Try.prog w 0 sp held n 9 [c4]=some y4:=by simpa [ce9] using hf 4 _ rfl
    obtain ⟨a4,r4,l4,o4,k4,b4⟩:=(Opens.str Try.underlying9).out f4
    refine ⟨⟨a0,a1,a2,a3,a4⟩,(r0.append (r1.append (r2.append (r3.append r4)))),rfl,fun u hu=>?_,⟨k0,k1,k2,k3,k4⟩,?_⟩
    · have hu:u∈[c0]++[c1]++[c2]++[c3]++[c4]:=hu
      simp only [List.mem_append] at hu
      rcases hu with (((hu|hu)|hu)|hu)|hu
      · exact o0 u hu
      · exact o1 u hu
      · exact o2 u hu
      · exact o3 u hu
      · exact o4 u hu
    · subst hx
      simp only [List.map_cons,List.map_nil,Rows.uptoBulk,Rows.uptoBulkAll,bkIns]
      omega⟩
theorem open_52 : Opens Try.prog 52 1 (fun l:(List Ins)=>[AV.sl 5 (l.map eIns)]) (okL okIns) (bkL bkIns):=Opens.slice Try.underlying52 (by kernel_rfl) (by decide) open_60
set_option maxRecDepth 100000 in
theorem open_54 : Opens Try.prog 54 5 eMe okMe bkMe:=⟨fun {H eH w sp held fuel cs x} h=>by
  obtain ⟨xs,n,_,hx,hlen,hxl,hf⟩:=DataW.trod_struct Try.underlying54 h
  have h2:cs.length=5:=hlen.trans (by kernel_rfl)
  have h3:xs.length=5:=hxl
  have ce3:Try.prog.cellsOf 3=1:=by kernel_rfl
  have ce9:Try.prog.cellsOf 9=1:=by kernel_rfl
  have ce52:Try.prog.cellsOf 52=1:=by kernel_rfl
  match cs,h2,xs,h3 with
  |[c0,c1,c2,c3,c4],_,[y0,y1,y2,y3,y4],_ =>
    have f0:DataW.trod eH Try.prog w 0 sp held n 9 [c0]=some y0:=by simpa [ce9] using hf 0 _ rfl
    obtain ⟨a0,r0,l0,o0,k0,b0⟩:=(Opens.str Try.underlying9).out f0
    have f1:DataW.trod eH Try.prog w 0 sp held n 3 [c1]=some y1:=by simpa [ce3] using hf 1 _ rfl
    obtain ⟨a1,r1,l1,o1,k1,b1⟩:=(Opens.int Try.underlying3).out f1
    have f2:DataW.trod eH Try.prog w 0 sp held n 3 [c2]=some y2:=by simpa [ce3] using hf 2 _ rfl
    obtain ⟨a2,r2,l2,o2,k2,b2⟩:=(Opens.int Try.underlying3).out f2
    have f3:DataW.trod eH Try.prog w 0 sp held n 3 [c3]=some y3:=by simpa [ce3] using hf 3 _ rfl
    obtain ⟨a3,r3,l3,o3,k3,b3⟩:=(Opens.int Try.underlying3).out f3
    have f4:DataW.trod eH Try.prog w 0 sp held n 52 [c4]=some y4:=by simpa [ce52] using hf 4 _ rfl
    obtain ⟨a4,r4,l4,o4,k4,b4⟩:=open_52.out f4
    refine ⟨⟨a0,a1,a2,a3,a4⟩,(r0.append (r1.append (r2.append (r3.append r4)))),rfl,fun u hu=>?_,⟨k0,k1,k2,k3,k4⟩,?_⟩
    · have hu:u∈[c0]++[c1]++[c2]++[c3]++[c4]:=hu
      simp only [List.mem_append] at hu
      rcases hu with (((hu|hu)|hu)|hu)|hu
      · exact o0 u hu
      · exact o1 u hu
      · exact o2 u hu
      · exact o3 u hu
      · exact o4 u hu
    · subst hx
      simp only [List.map_cons,List.map_nil,Rows.uptoBulk,Rows.uptoBulkAll,bkMe]
      omega⟩
theorem open_49 : Opens Try.prog 49 1 (fun l:(List Me)=>[AV.sl 5 (l.map eMe)]) (okL okMe) (bkL bkMe):=Opens.slice Try.underlying49 (by kernel_rfl) (by decide) open_54
set_option maxRecDepth 100000 in
theorem open_51 : Opens Try.prog 51 4 eCl okCl bkCl:=⟨fun {H eH w sp held fuel cs x} h=>by
  obtain ⟨xs,n,_,hx,hlen,hxl,hf⟩:=DataW.trod_struct Try.underlying51 h
  have h2:cs.length=4:=hlen.trans (by kernel_rfl)
  have h3:xs.length=4:=hxl
  have ce3:Try.prog.cellsOf 3=1:=by kernel_rfl
  have ce9:Try.prog.cellsOf 9=1:=by kernel_rfl
  have ce49:Try.prog.cellsOf 49=1:=by kernel_rfl
  match cs,h2,xs,h3 with
  |[c0,c1,c2,c3],_,[y0,y1,y2,y3],_ =>
    have f0:DataW.trod eH Try.prog w 0 sp held n 9 [c0]=some y0:=by simpa [ce9] using hf 0 _ rfl
    obtain ⟨a0,r0,l0,o0,k0,b0⟩:=(Opens.str Try.underlying9).out f0
    have f1:DataW.trod eH Try.prog w 0 sp held n 3 [c1]=some y1:=by simpa [ce3] using hf 1 _ rfl
    obtain ⟨a1,r1,l1,o1,k1,b1⟩:=(Opens.int Try.underlying3).out f1
    have f2:DataW.trod eH Try.prog w 0 sp held n 3 [c2]=some y2:=by simpa [ce3] using hf 2 _ rfl
    obtain ⟨a2,r2,l2,o2,k2,b2⟩:=(Opens.int Try.underlying3).out f2
    have f3:DataW.trod eH Try.prog w 0 sp held n 49 [c3]=some y3:=by simpa [ce49] using hf 3 _ rfl
    obtain ⟨a3,r3,l3,o3,k3,b3⟩:=open_49.out f3
    refine ⟨⟨a0,a1,a2,a3⟩,(r0.append (r1.append (r2.append r3))),rfl,fun u hu=>?_,⟨k0,k1,k2,k3⟩,?_⟩
    · have hu:u∈[c0]++[c1]++[c2]++[c3]:=hu
      simp only [List.mem_append] at hu
      rcases hu with ((hu|hu)|hu)|hu
      · exact o0 u hu
      · exact o1 u hu
      · exact o2 u hu
      · exact o3 u hu
    · subst hx
      simp only [List.map_cons,List.map_nil,Rows.uptoBulk,Rows.uptoBulkAll,bkCl]
      omega⟩
theorem open_22 : Opens Try.prog 22 1 (fun l:(List Cl)=>[AV.sl 4 (l.map eCl)]) (okL okCl) (bkL bkCl):=Opens.slice Try.underlying22 (by kernel_rfl) (by decide) open_51
set_option maxRecDepth 100000 in
theorem open_27 : Opens Try.prog 27 2 eV okV bkV:=⟨fun {H eH w sp held fuel cs x} h=>by
  obtain ⟨xs,n,_,hx,hlen,hxl,hf⟩:=DataW.trod_struct Try.underlying27 h
  have h2:cs.length=2:=hlen.trans (by kernel_rfl)
  have h3:xs.length=2:=hxl
  have ce3:Try.prog.cellsOf 3=1:=by kernel_rfl
  match cs,h2,xs,h3 with
  |[c0,c1],_,[y0,y1],_ =>
    have f0:DataW.trod eH Try.prog w 0 sp held n 3 [c0]=some y0:=by simpa [ce3] using hf 0 _ rfl
    obtain ⟨a0,r0,l0,o0,k0,b0⟩:=(Opens.int Try.underlying3).out f0
    have f1:DataW.trod eH Try.prog w 0 sp held n 3 [c1]=some y1:=by simpa [ce3] using hf 1 _ rfl
    obtain ⟨a1,r1,l1,o1,k1,b1⟩:=(Opens.int Try.underlying3).out f1
    refine ⟨⟨a0,a1⟩,(r0.append r1),rfl,fun u hu=>?_,⟨k0,k1⟩,?_⟩
    · have hu:u∈[c0]++[c1]:=hu
      simp only [List.mem_append] at hu
      rcases hu with hu|hu
      · exact o0 u hu
      · exact o1 u hu
    · subst hx
      simp only [List.map_cons,List.map_nil,Rows.uptoBulk,Rows.uptoBulkAll,bkV]
      omega⟩
theorem open_28 : Opens Try.prog 28 1 (fun l:(List V)=>[AV.sl 2 (l.map eV)]) (okL okV) (bkL bkV):=Opens.slice Try.underlying28 (by kernel_rfl) (by decide) open_27
set_option maxRecDepth 100000 in
theorem open_97 : Opens Try.prog 97 2 eOb okOb bkOb:=⟨fun {H eH w sp held fuel cs x} h=>by
  obtain ⟨xs,n,_,hx,hlen,hxl,hf⟩:=DataW.trod_struct Try.underlying97 h
  have h2:cs.length=2:=hlen.trans (by kernel_rfl)
  have h3:xs.length=2:=hxl
  have ce3:Try.prog.cellsOf 3=1:=by kernel_rfl
  have ce28:Try.prog.cellsOf 28=1:=by kernel_rfl
  match cs,h2,xs,h3 with
  |[c0,c1],_,[y0,y1],_ =>
    have f0:DataW.trod eH Try.prog w 0 sp held n 3 [c0]=some y0:=by simpa [ce3] using hf 0 _ rfl
    obtain ⟨a0,r0,l0,o0,k0,b0⟩:=(Opens.int Try.underlying3).out f0
    have f1:DataW.trod eH Try.prog w 0 sp held n 28 [c1]=some y1:=by simpa [ce28] using hf 1 _ rfl
    obtain ⟨a1,r1,l1,o1,k1,b1⟩:=open_28.out f1
    refine ⟨⟨a0,a1⟩,(r0.append r1),rfl,fun u hu=>?_,⟨k0,k1⟩,?_⟩
    · have hu:u∈[c0]++[c1]:=hu
      simp only [List.mem_append] at hu
      rcases hu with hu|hu
      · exact o0 u hu
      · exact o1 u hu
    · subst hx
      simp only [List.map_cons,List.map_nil,Rows.uptoBulk,Rows.uptoBulkAll,bkOb]
      omega⟩
theorem open_23 : Opens Try.prog 23 1 (fun l:(List Ob)=>[AV.sl 2 (l.map eOb)]) (okL okOb) (bkL bkOb):=Opens.slice Try.underlying23 (by kernel_rfl) (by decide) open_97
set_option maxRecDepth 100000 in
theorem open_25 : Opens Try.prog 25 3 eWd okWd bkWd:=⟨fun {H eH w sp held fuel cs x} h=>by
  obtain ⟨xs,n,_,hx,hlen,hxl,hf⟩:=DataW.trod_struct Try.underlying25 h
  have h2:cs.length=3:=hlen.trans (by kernel_rfl)
  have h3:xs.length=3:=hxl
  have ce3:Try.prog.cellsOf 3=1:=by kernel_rfl
  have ce22:Try.prog.cellsOf 22=1:=by kernel_rfl
  have ce23:Try.prog.cellsOf 23=1:=by kernel_rfl
  match cs,h2,xs,h3 with
  |[c0,c1,c2],_,[y0,y1,y2],_ =>
    have f0:DataW.trod eH Try.prog w 0 sp held n 22 [c0]=some y0:=by simpa [ce22] using hf 0 _ rfl
    obtain ⟨a0,r0,l0,o0,k0,b0⟩:=open_22.out f0
    have f1:DataW.trod eH Try.prog w 0 sp held n 23 [c1]=some y1:=by simpa [ce23] using hf 1 _ rfl
    obtain ⟨a1,r1,l1,o1,k1,b1⟩:=open_23.out f1
    have f2:DataW.trod eH Try.prog w 0 sp held n 3 [c2]=some y2:=by simpa [ce3] using hf 2 _ rfl
    obtain ⟨a2,r2,l2,o2,k2,b2⟩:=(Opens.int Try.underlying3).out f2
    refine ⟨⟨a0,a1,a2⟩,(r0.append (r1.append r2)),rfl,fun u hu=>?_,⟨k0,k1,k2⟩,?_⟩
    · have hu:u∈[c0]++[c1]++[c2]:=hu
      simp only [List.mem_append] at hu
      rcases hu with (hu|hu)|hu
      · exact o0 u hu
      · exact o1 u hu
      · exact o2 u hu
    · subst hx
      simp only [List.map_cons,List.map_nil,Rows.uptoBulk,Rows.uptoBulkAll,bkWd]
      omega⟩
set_option maxRecDepth 100000 in
theorem open_30 : Opens Try.prog 30 4 eTCall okTCall bkTCall:=⟨fun {H eH w sp held fuel cs x} h=>by
  obtain ⟨xs,n,_,hx,hlen,hxl,hf⟩:=DataW.trod_struct Try.underlying30 h
  have h2:cs.length=4:=hlen.trans (by kernel_rfl)
  have h3:xs.length=3:=hxl
  have ce9:Try.prog.cellsOf 9=1:=by kernel_rfl
  have ce27:Try.prog.cellsOf 27=2:=by kernel_rfl
  have ce28:Try.prog.cellsOf 28=1:=by kernel_rfl
  match cs,h2,xs,h3 with
  |[c0,c1,c2,c3],_,[y0,y1,y2],_ =>
    have f0:DataW.trod eH Try.prog w 0 sp held n 27 [c0,c1]=some y0:=by simpa [ce27] using hf 0 _ rfl
    obtain ⟨a0,r0,l0,o0,k0,b0⟩:=open_27.out f0
    have f1:DataW.trod eH Try.prog w 0 sp held n 9 [c2]=some y1:=by simpa [ce9] using hf 1 _ rfl
    obtain ⟨a1,r1,l1,o1,k1,b1⟩:=(Opens.str Try.underlying9).out f1
    have f2:DataW.trod eH Try.prog w 0 sp held n 28 [c3]=some y2:=by simpa [ce28] using hf 2 _ rfl
    obtain ⟨a2,r2,l2,o2,k2,b2⟩:=open_28.out f2
    refine ⟨⟨a0,a1,a2⟩,(r0.append (r1.append r2)),rfl,fun u hu=>?_,⟨k0,k1,k2⟩,?_⟩
    · have hu:u∈[c0,c1]++[c2]++[c3]:=hu
      simp only [List.mem_append] at hu
      rcases hu with (hu|hu)|hu
      · exact o0 u hu
      · exact o1 u hu
      · exact o2 u hu
    · subst hx
      simp only [List.map_cons,List.map_nil,Rows.uptoBulk,Rows.uptoBulkAll,bkTCall]
      omega⟩
end Go.Proofs.Ytkecefjmcimemaa
