import Derived.Test.YtibjcppjfkamhaaGreatDoorD1
import Derived.Test.YtibjcppjfkamhaaGreatDoorD2
import Derived.Test.YtibjcppjfkamhaaGreatDoorD3
set_option linter.unusedVariables false
set_option linter.defProp false
set_option linter.unusedSimpArgs false
namespace Go.Proofs.YtibjcppjfkamhaaGreatDoor
open Go.RowKit Go.Proofs.Tryz
open _root_.And renaming intro->AN
open _root_.Bool renaming and_eq_true->IT
open _root_.ByteArray renaming empty->BY
open _root_.List renaming getElem?_eq_some_iff->Lx,replicate->MC,map->MF,mem_of_getElem?->MI,all_eq_true->MK,length_map->MP,getElem?_set->MQ,getElem?_append_right->MS,length_take->Mk
open _root_.Nat renaming ble->IN,le_refl->It,le_of_ble_eq_true->MR,mul_le_mul_right->Ml
open _root_.Or renaming inl->MA
section
set_option maxHeartbeats 40000000
set_option maxRecDepth 100000
def Aq {N a0 r} (h:pC N a0=some r):Spec prog 29 [] [.agg (O3 a0)] (.agg (O3 r)) [] []:=by
 refine so func29 ntmps29 fun e hn=>?_;unfold pC at h;refine B [3,2,8] fun _ a h=>?_;refine cA (((jU a).sw 0 5).sw 1 705) ?_;refine B [] fun _ b h=>?_;refine cA ((uj b).sw 0 8) ?_;refine B [] fun _ c h=>?_;refine cA ((BR c).sw 0 11) ?_;refine B [] fun _ d h=>?_;refine cA ((Fk N _ _ d).sw 0 14) ?_;refine j6.b9 5 rfl ?_;refine j6.ax 8 rfl ?_;refine j6.ax 11 rfl ?_;refine j6.ax 14 rfl ?_;exact Sr [7]
def Gw {N a0 a1 a2 a3 r} (h:sO N a0 a1 a2 a3=some r):Spec prog 64 [] [.agg (Q7 a0),.str a1,.int a2,.int a3] (.ab [.agg (Q7 r.1),.int r.2.1,.int r.2.2]) [] []:=by
 refine so func64 ntmps64 fun l hn=>?_;unfold sO at h;refine S [3,2,6,2] ?_;refine j6.gh (Gh.bF 5 5 rfl rfl rfl) (fun _=>?_);refine Jb 12 hn h [2,3,4,5,8] [4,8] (fun _ h g=>?_) ?_
 ·refine B [5] fun _ d h=>?_;refine cA (qw d) ?_;refine I [] ?_ ?_<;>intro _ h
  ·exact Sj [0]
  refine B [0] fun _ e h=>?_;refine cA (Ee e (fun _ _ f=>FM f)) ?_;exact Sj [0]
 intro j h;refine I [4] ?_ ?_<;>intro _ h
 ·exact Sr [3,7]
 refine S [2] ?_;refine Jb 23 hn h [2,3,4,5,8] [4,8] (fun _ h g=>?_) ?_
 ·refine I [5] ?_ ?_<;>intro _ h
  ·exact Sj [0]
  exact Sj [0,13,0]
 intro k h;refine I [4] ?_ ?_<;>intro _ h
 ·exact Sr [3,7]
 refine S [2] ?_;refine Jb 34 hn h [2,3,4,5,8] [4,8] (fun _ h g=>?_) ?_
 ·refine I [5] ?_ ?_<;>intro _ h
  ·exact Sj [0]
  refine B [0] fun _ b h=>?_;refine cA (kD b) ?_;refine I [0,12,0] ?_ ?_<;>intro _ h
  ·exact Sj [0]
  refine I [0] ?_ ?_<;>intro _ h
  ·exact Sj [0]
  exact Sj [0]
 intro i h;refine I [4] ?_ ?_<;>intro _ h
 ·exact Sr [3,7]
 refine I [3,13,4] ?_ ?_<;>intro _ h
 ·exact Sr [3,7]
 refine B [1,3] fun _ c h=>?_;refine cA ((GK c).sw 0 61) ?_;refine S [3,12] ?_;refine bS fu [(⟨a1,a2,a3,[]⟩:Cl)] ?_;refine A [] fun a h=>?_;refine aM a ?_;refine S [2] ?_;refine kd [4,8,11] [4,8,11,69] ?_;refine S [8,13] ?_;refine j6.ax 69 rfl ?_;exact Sr [7]
def H0 (N:Nat) (l:List Ce) (s:Fit l.length 72) (i:∀t∈l,Fit t.lines.length 16):Spec prog 61 [] [.sl 6 (l.map hU)] (.cN 0) [(0,.nest 6 159 2 167 (l.map dH))] [0]:=by
  refine Spec.of fI func61 rfl ntmps61 y7 rfl rfl rfl fun u hn=>?_;(repeat (first|refine I7 hn ?_|refine P7 hn ?_|refine R5 hn ?_|refine O9 hn ?_|refine P8 hn ?_|refine N9 hn ?_|refine b7 hn ?_));refine O1 (fun c=>?_);(repeat (first|refine I7 hn ?_|refine P7 hn ?_|refine R5 hn ?_|refine O9 hn ?_|refine P8 hn ?_|refine N9 hn ?_|refine b7 hn ?_));refine j6.bK 3 3 6 159 rfl rfl rfl ?_;refine j6.gh (Gh.mQ 100 2 167 rfl rfl) (fun _=>?_);refine j6.loop (ι:={p:Nat×List (Hd×List AV×List (List AV)) // p.1<=l.length/\p.2.map (·.2)=(l.take p.1).map dH}) (fun p=>[(6,.sl 6 (l.map hU)),(7,.int l.length),(8,.int p.1.1),(3,.aL 3)])
    (fun p=>[(3,.row 6 (u6 p.1.2) 159),(100,.pins 2 (Z0 p.1.2) 167)]) (fun p=>l.length-p.1.1) ⟨(0,[]),d9,rfl⟩ [] ?_ ?_ ?_
  · exact⟨⟨rfl,rfl,rfl,rfl,trivial⟩,⟨rfl,rfl,trivial⟩,rfl,rfl⟩
  · intro k;rw[hn];rfl
  rintro⟨⟨k,z⟩,o,b⟩;have o:k<=l.length:=o;have b:z.map (·.2)=(l.take k).map dH:=b;(repeat (first|refine I7 hn ?_|refine P7 hn ?_|refine R5 hn ?_|refine O9 hn ?_|refine P8 hn ?_|refine N9 hn ?_|refine b7 hn ?_));refine jZ (fun a=>?_) (fun j=>?_)
  · have a:k<l.length:=by have:(k:Int)<(l.length:Int):=a;omega
    (repeat (first|refine I7 hn ?_|refine P7 hn ?_|refine R5 hn ?_|refine O9 hn ?_|refine P8 hn ?_|refine N9 hn ?_|refine b7 hn ?_));refine AN d9 (AN (by simpa using a) ?_);intro w f r;obtain⟨x,d,rfl⟩:=ER f;have d:l[k]?=some x:=d;(repeat (first|refine I7 hn ?_|refine P7 hn ?_|refine R5 hn ?_|refine O9 hn ?_|refine P8 hn ?_|refine N9 hn ?_|refine b7 hn ?_));show L9 _ _ _ _ _;refine L9.a_ ((uE N x.lines x.lines (d44 N (i x (MI d)))).sw 0 14) (by first|exact kL rfl|((repeat (refine AN rfl ?_));exact trivial)) (by(repeat (refine AN rfl ?_));exact trivial) rfl ?_;refine j6.gh (Gh.tq 5 5 14 100 rfl rfl rfl rfl rfl rfl rfl) (fun h=>?_);(repeat (first|refine I7 hn ?_|refine P7 hn ?_|refine R5 hn ?_|refine O9 hn ?_|refine P8 hn ?_|refine N9 hn ?_|refine b7 hn ?_));refine Exists.intro [R4 x++[.ad h.v]] (AN aT ?_);have n:(u6 z).length=k:=by
      have:=jb b;rw[Mk] at this;simp only[u6,MP];omega
    refine AN ?_ (Exists.intro (u6 (z++[(h,dH x)])) (AN (by rw[uL];exact Q8 _) ?_))
    · show((u6 z).length+1)*72<=_;rw[n];exact Nat.le_trans (Ml 72 a) s
    (repeat (first|refine I7 hn ?_|refine P7 hn ?_|refine R5 hn ?_|refine O9 hn ?_|refine P8 hn ?_|refine N9 hn ?_|refine b7 hn ?_));refine MA (AN (xg a c) ?_);have m:(z++[(h,dH x)]).map (·.2)=(l.take (k+1)).map dH:=by
      rw[xX d,List.map_append,List.map_append,show z.map (·.2)=(l.take k).map dH from b];rfl
    refine⟨⟨(k+1,z++[(h,dH x)]),a,m⟩,[(3,19)],by show l.length-(k+1)<l.length-k;omega,⟨⟨rfl,rfl,rfl,rfl,trivial⟩,⟨rfl,?_,trivial⟩,rfl,rfl⟩⟩
    · exact congrArg (fun q=>some (Obj.pins 2 q 167)) (vH z (h,dH x)).symm
  · have e:k=l.length:=by have:¬(k:Int)<(l.length:Int):=j;omega
    subst e;have b:z.map (·.2)=l.map dH:=by
      have:z.map (·.2)=(l.take l.length).map dH:=b;rwa [List.take_length] at this
    refine P8 hn ?_;show j6 prog u _ _ _ _;refine j6.gh (Gh.close 3 3 100 101 z rfl rfl rfl rfl rfl b rfl rfl rfl rfl rfl) ?_;intro _;(repeat (first|refine I7 hn ?_|refine P7 hn ?_|refine R5 hn ?_|refine O9 hn ?_|refine P8 hn ?_|refine N9 hn ?_|refine b7 hn ?_));exact⟨[(0,101)],_,rfl,rfl,⟨rfl,trivial⟩,rfl,rfl,rfl,rfl,rfl⟩
def HL (N:Nat) (l:List Ce) (s:St) (e:Int) (c:Int) (f:Int) (r:List Ce) (h:sQ N l s e c f=some r):Spec prog 169 [] [.sl 6 (l.map hU),.agg (bW s),.int e,.int c,.int f] (.aL 0) [(0,.row 6 (r.map hU) 159)] [0]:=by
  unfold sQ at h;obtain⟨R,h⟩:=iz h;obtain rfl:=oI h;rw[IT,MK] at R;have hf:Fit (l.length+1) 72:=MR R.1;have M:∀t∈l,Fit (t.lines.length+1) 16:=fun t ht=>MR (R.2 t ht);clear h R;refine Spec.of fI func169 rfl ntmps169 y7 rfl rfl rfl fun D hn=>?_;refine I7 hn ?_;show j6 prog D _ _ _ _;refine j6.gh (Gh.bF 6 6 rfl rfl rfl) ?_;intro _;show j6 prog D _ _ _ _;refine j6.gh (Gh.bF 8 8 rfl rfl rfl) ?_;intro _;(repeat (first|refine I7 hn ?_|refine P7 hn ?_|refine R5 hn ?_|refine O9 hn ?_|refine P8 hn ?_|refine N9 hn ?_|refine b7 hn ?_));show L9 _ _ _ _ _;refine L9.a_ ((H0 N l (Nat.le_trans (Ml _ (Nat.le_succ _)) hf) (fun t ht=>Nat.le_trans (Ml _ (Nat.le_succ _)) (M t ht))).sw 0 15) (by first|exact kL rfl|((repeat (refine AN rfl ?_));exact trivial)) (by(repeat (refine AN rfl ?_));exact trivial) rfl ?_;(repeat (first|refine I7 hn ?_|refine P7 hn ?_|refine R5 hn ?_|refine O9 hn ?_|refine P8 hn ?_|refine N9 hn ?_|refine b7 hn ?_));show L9 _ _ _ _ _;refine L9.hZ (Aw (GN N l s)) ?_ rfl ?_
  · show dZ [.sl 6 (dy 2 (l.map dH)),.agg (bW s)] _;rw[Cz];exact kL rfl
  show j6 prog D _ _ _ _;refine j6.gh (Gh.open 11 15 102 103 rfl rfl rfl rfl rfl rfl (fun _=>rfl)) ?_;rintro⟨z,G⟩;refine j6.cut (ι:={ q:Nat×Ce×Hd×List (Hd×List AV×List (List AV)) // q.2.2.2[q.1]?=some (q.2.2.1,dH q.2.1)/\q.2.2.2.map (·.2)=(bf (fun t:Ce=>decide (t.site=s)) ⟨s,e,false,[]⟩ l).1.map dH/\(bf (fun t:Ce=>decide (t.site=s)) ⟨s,e,false,[]⟩ l).1[q.1]?=some q.2.1/\(bf (fun t:Ce=>decide (t.site=s)) ⟨s,e,false,[]⟩ l).2=q.1/\Fit (q.2.1.lines.length+1) 16/\q.2.1.site=s })
    (fun q=>[(11,.aL 102),(12,.int q.1.1),(2,.int e),(4,.int f),(6,.fp (bW s)),(8,.fp [.int c])]) (fun q=>[(102,.row 6 (u6 q.1.2.2.2) 159),(103,.pins 2 ((Z0 q.1.2.2.2).eraseIdx q.1.1) 167),(104,.row 2 (q.1.2.1.lines.map V5) 167),(105,.eqv 104 q.1.2.2.1.v)]) ?_ ?_ ?_
  · (repeat (first|refine I7 hn ?_|refine P7 hn ?_|refine R5 hn ?_|refine O9 hn ?_|refine P8 hn ?_|refine N9 hn ?_|refine b7 hn ?_));rcases vZ (fun t:Ce=>decide (t.site=s)) l with⟨k,x,e1,H,e3,e4⟩|⟨e1,H⟩
    · refine jZ (fun B=>?_) (fun A=>?_)
      · rw[e1] at B;omega
      · obtain⟨h,P⟩:=Dw G H;have X:(Z0 z).Perm ((h,x.lines.map V5)::(Z0 z).eraseIdx k):=by
          have hk:(Z0 z)[k]?=some (h,x.lines.map V5):=(by simp[Z0,P,dH]);obtain⟨hl,hv⟩:=Lx.1 hk;rw[<-hv];exact(List.ai hl).symm
        show j6 prog D _ _ _ _;refine j6.gh (Gh.mS 103 104 105 rfl X rfl rfl rfl rfl rfl) ?_;intro _;refine N9 hn ?_;have ex:bf (fun t:Ce=>decide (t.site=s)) ⟨s,e,false,[]⟩ l=(l,k):=by unfold bf;rw[e4]
        refine⟨⟨(k,x,h,z),P,by rw[ex];exact G,by rw[ex];exact H,by rw[ex],M x (MI H),of_decide_eq_true e3⟩,[],⟨⟨rfl,congrArg AV.int e1,rfl,rfl,rfl,rfl,trivial⟩,⟨rfl,rfl,rfl,rfl,trivial⟩,rfl,rfl⟩⟩
    · refine jZ (fun B=>?_) (fun A=>?_)
      · (repeat (first|refine I7 hn ?_|refine P7 hn ?_|refine R5 hn ?_|refine O9 hn ?_|refine P8 hn ?_|refine N9 hn ?_|refine b7 hn ?_));rintro _ rfl hlen;refine j6.ops (jt hn 7 ?_);refine Exists.intro [[.int s.cls,.str s.name,.int s.pos,.int e,.bool false,.aP]] (AN aT ?_);refine AN ?_ (Exists.intro (u6 z++[[AV.int s.cls,.str s.name,.int s.pos,.int e,.bool false,.aP]]) (AN (Q8 _) ?_))
        · show((u6 z).length+1)*72<=_;rw[show(u6 z).length=l.length by simp only[u6,MP];exact jb G];exact hf
        have ah:(u6 z++[[AV.int s.cls,.str s.name,.int s.pos,.int e,.bool false,.aP]])[l.length]?=some [AV.int s.cls,.str s.name,.int s.pos,.int e,.bool false,.aP]:=by
          rw[MS (by simp[u6,jb G])];simp[u6,jb G]
        show cd prog D _ _ _ _ _;refine cd.gh (Gh.fA (r:=28) (i:=l.length) (off:=5) (j:=104) (j':=105) (isz:=2) (ie:=167) rfl ah rfl rfl rfl rfl rfl rfl) ?_;intro _;refine cd.done ?_;have ex:bf (fun t:Ce=>decide (t.site=s)) ⟨s,e,false,[]⟩ l=(l++[⟨s,e,false,[]⟩],l.length):=by unfold bf;rw[H]
        have o:=jb G;refine⟨⟨(l.length,⟨s,e,false,[]⟩,⟨none,0,0⟩,z++[(⟨none,0,0⟩,dH ⟨s,e,false,[]⟩)]),?_,?_,?_,?_,?_,rfl⟩,[(102,28)],⟨⟨rfl,?_,rfl,rfl,rfl,rfl,trivial⟩,⟨?_,?_,rfl,rfl,trivial⟩,rfl,rfl⟩⟩
        · show(z++[_])[l.length]?=_;rw[MS d9];simp[o]
        · rw[ex];show MF (fun p:Hd×List AV×List (List AV)=>p.2) (z++[_])=MF dH (l++[_]);rw[List.map_append,List.map_append,G];rfl
        · rw[ex];show(l++[_])[l.length]?=_;rw[MS (It _)];simp
        · rw[ex]
        · show(0+1)*16<=_;decide
        · exact congrArg AV.int (by simp[u6,o])
        · refine congrArg (fun q=>some (Obj.row 6 q 159)) ?_;show(u6 z++[_]).set l.length _=u6 (z++[_]);rw[uL,List.set_append_right _ _ (by simp[u6,o])];simp[u6,o,dH,R4]
        · refine congrArg (fun q=>some (Obj.pins 2 q 167)) ?_;show Z0 z=(Z0 (z++[_])).eraseIdx l.length;rw[vH,List.eraseIdx_append_of_length_le (by simp[Z0,o])];simp[Z0,o]
      · rw[e1] at A;omega
  · intro k;rw[hn];rfl
  rintro⟨⟨k,x,h,z⟩,w,Y,Z,hq4,hq5,F⟩;have w:z[k]?=some (h,dH x):=w;have F:x.site=s:=F;have b:k<(u6 z).length:=by
    have:=(Lx.1 w).1;simpa[u6] using this
  have ah:(u6 z)[k]?=some (R4 x++[.ad h.v]):=by simp[u6,w,dH]
  (repeat (first|refine I7 hn ?_|refine P7 hn ?_|refine R5 hn ?_|refine O9 hn ?_|refine P8 hn ?_|refine N9 hn ?_|refine b7 hn ?_));refine AN d9 (AN (by simpa using b) ?_);refine AN (by simpa using b) (fun d a=>?_);have a:(u6 z)[k]?=some d:=a;obtain rfl:d=R4 x++[.ad h.v]:=oI (a.symm.trans ah);show j6 prog D _ _ _ _;refine j6.jH (ι:={ q:Ce×Hd // q.1=fg e x/\Fit (q.1.lines.length+1) 16 })
    (fun q=>[(11,.aL 102),(12,.int k),(4,.int f),(8,.fp [.int c])]) (fun q=>[(102,.row 6 ((u6 z).set k (R4 q.1.1++[.ad q.1.2.v])) 159),(103,.pins 2 ((Z0 z).eraseIdx k) 167),(104,.row 2 (q.1.1.lines.map V5) 167),(105,.eqv 104 q.1.2.v)]) (fun Q2 Q q2x q2r=>?_) (by intro k;rw[hn];rfl) ?_
  · (repeat (first|refine I7 hn ?_|refine P7 hn ?_|refine R5 hn ?_|refine O9 hn ?_|refine P8 hn ?_|refine N9 hn ?_|refine b7 hn ?_));refine nO (fun T=>?_) (fun T=>?_)
    · have W:¬x.aB=e:=by simpa using T
      have n:fg e x=⟨x.site,e,false,[]⟩:=Mt W;refine P7 hn ?_;refine AN d9 (AN (by simpa using b) ?_);refine AN (by simpa using b) (fun d a=>?_);have a:(u6 z)[k]?=some d:=a;obtain rfl:d=R4 x++[.ad h.v]:=oI (a.symm.trans ah);refine Exists.intro ((u6 z).set k [.int s.cls,.str s.name,.int s.pos,.int e,.bool false,.aP]) (AN (Q8 _) ?_);have J:((u6 z).set k [AV.int s.cls,.str s.name,.int s.pos,.int e,.bool false,.aP])[k]?=some [AV.int s.cls,.str s.name,.int s.pos,.int e,.bool false,.aP]:=by rw[MQ,Mu rfl,Mu b]
      refine Q _ _ ?_;refine Z8.gh (Gh.fA (r:=102) (i:=k) (off:=5) (j:=106) (j':=107) (isz:=2) (ie:=167) rfl J rfl rfl rfl rfl rfl rfl) (fun _=>?_);refine Z8.done ?_;refine⟨⟨(fg e x,⟨none,0,0⟩),rfl,by show Fit ((fg e x).lines.length+1) 16;rw[n];show(0+1)*16<=_;decide⟩,[(104,106),(105,107)],trivial,⟨⟨rfl,rfl,rfl,rfl,trivial⟩,⟨?_,rfl,?_,rfl,trivial⟩,rfl,rfl⟩⟩
      · refine congrArg (fun q=>some (Obj.row 6 q 159)) ?_;show((u6 z).set k [AV.int s.cls,.str s.name,.int s.pos,.int e,.bool false,.aP]).set k [AV.int s.cls,.str s.name,.int s.pos,.int e,.bool false,.ad (⟨none,0,0⟩:Hd).v]=(u6 z).set k (R4 (fg e x)++[.ad (⟨none,0,0⟩:Hd).v]);rw[List.set_set,n,<-F];rfl
      · refine congrArg (fun q=>some (Obj.row 2 q 167)) ?_;show[]=MF V5 (fg e x).lines;rw[n];rfl
    · have he:x.aB=e:=by simpa using T
      have n:fg e x=x:=Mu he;refine N9 hn ?_;refine Q _ _ ?_;refine Z8.done ?_;refine⟨⟨(fg e x,h),rfl,by show Fit ((fg e x).lines.length+1) 16;rw[n];exact hq5⟩,[],trivial,⟨⟨rfl,rfl,rfl,rfl,trivial⟩,⟨?_,rfl,?_,rfl,trivial⟩,rfl,rfl⟩⟩
      · refine congrArg (fun q=>some (Obj.row 6 q 159)) ?_;show u6 z=(u6 z).set k (R4 (fg e x)++[.ad h.v]);rw[n];exact(xO ah).symm
      · refine congrArg (fun q=>some (Obj.row 2 q 167)) ?_;show MF V5 x.lines=MF V5 (fg e x).lines;rw[n]
  rintro⟨⟨y,g⟩,hy,E⟩;have hy:y=fg e x:=hy;have E:Fit (y.lines.length+1) 16:=E;have m:((u6 z).set k (R4 y++[.ad g.v]))[k]?=some (R4 y++[.ad g.v]):=by rw[MQ,Mu rfl,Mu b]
  (repeat (first|refine I7 hn ?_|refine P7 hn ?_|refine R5 hn ?_|refine O9 hn ?_|refine P8 hn ?_|refine N9 hn ?_|refine b7 hn ?_));refine AN d9 (AN (by simpa using b) ?_);show j6 prog D _ _ _ _;refine j6.oU fun Q4 q4n q4x q4r=>?_;refine j6.jH (ι:=Hd) (fun q=>[(11,.aL 102),(12,.int k)]) (fun q=>[(102,.row 6 ((u6 z).set k (R4 (Y3 c f y)++[.ad q.v])) 159),(103,.pins 2 ((Z0 z).eraseIdx k) 167),(104,.row 2 ((Y3 c f y).lines.map V5) 167),(105,.eqv 104 q.v)]) (fun Q3 C q3x q3r=>?_) (by intro k;rw[hn];rfl) ?_
  · (repeat (first|refine I7 hn ?_|refine P7 hn ?_|refine R5 hn ?_|refine O9 hn ?_|refine P8 hn ?_|refine N9 hn ?_|refine b7 hn ?_));refine AN (by simpa using b) (fun d a=>?_);have a:((u6 z).set k (R4 y++[.ad g.v]))[k]?=some d:=a;obtain rfl:d=R4 y++[.ad g.v]:=oI (a.symm.trans m);refine nO (fun u=>?_) (fun u=>?_)
    · repeat (refine d37 u ?_)
      have hl:Y3 c f y=y:=Mu (MA u);(repeat (first|refine I7 hn ?_|refine P7 hn ?_|refine R5 hn ?_|refine O9 hn ?_|refine P8 hn ?_|refine N9 hn ?_|refine b7 hn ?_));refine C _ _ ?_;refine Z8.done ?_;refine⟨g,[],trivial,⟨⟨rfl,rfl,trivial⟩,⟨?_,rfl,?_,rfl,trivial⟩,rfl,rfl⟩⟩
      · refine congrArg (fun q=>some (Obj.row 6 q 159)) ?_;show(u6 z).set k (R4 y++[.ad g.v])=(u6 z).set k (R4 (Y3 c f y)++[.ad g.v]);rw[hl]
      · refine congrArg (fun q=>some (Obj.row 2 q 167)) ?_;show MF V5 y.lines=MF V5 (Y3 c f y).lines;rw[hl]
    · refine nt u ?_;refine nt u ?_;refine nt u ?_;refine AN (by simpa using b) (fun d a=>?_);have a:((u6 z).set k (R4 y++[.ad g.v]))[k]?=some d:=a;obtain rfl:d=R4 y++[.ad g.v]:=oI (a.symm.trans m);refine AN rfl ?_;refine nt u ?_;refine nt u ?_;show L9 _ _ _ _ _;refine L9.hZ (Ef (Hl N c y.lines) (fun _ _ h=>FW h)) (kL rfl) rfl ?_;refine nt u ?_;(repeat (first|refine I7 hn ?_|refine P7 hn ?_|refine R5 hn ?_|refine O9 hn ?_|refine P8 hn ?_|refine N9 hn ?_|refine b7 hn ?_));refine nO (fun U=>?_) (fun U=>?_)
      · have hl:Y3 c f y=y:=Mu (Or.inr (of_decide_eq_true U));(repeat (first|refine I7 hn ?_|refine P7 hn ?_|refine R5 hn ?_|refine O9 hn ?_|refine P8 hn ?_|refine N9 hn ?_|refine b7 hn ?_));refine C _ _ ?_;refine Z8.done ?_;refine⟨g,[],trivial,⟨⟨rfl,rfl,trivial⟩,⟨?_,rfl,?_,rfl,trivial⟩,rfl,rfl⟩⟩
        · refine congrArg (fun q=>some (Obj.row 6 q 159)) ?_;show(u6 z).set k (R4 y++[.ad g.v])=(u6 z).set k (R4 (Y3 c f y)++[.ad g.v]);rw[hl]
        · refine congrArg (fun q=>some (Obj.row 2 q 167)) ?_;show MF V5 y.lines=MF V5 (Y3 c f y).lines;rw[hl]
      · have O:¬(y.many=true\/0<=fw (fun t:Ln=>decide (t.cls=c)) y.lines):=by
          rintro(h|h)
          · rw[h] at u;cases u
          · exact absurd h (of_decide_eq_false U)
        (repeat (first|refine I7 hn ?_|refine P7 hn ?_|refine R5 hn ?_|refine O9 hn ?_|refine P8 hn ?_|refine N9 hn ?_|refine b7 hn ?_));refine AN (by simpa using b) (fun d a=>?_);have a:((u6 z).set k (R4 y++[.ad g.v]))[k]?=some d:=a;obtain rfl:d=R4 y++[.ad g.v]:=oI (a.symm.trans m);refine AN rfl ?_;rintro _ rfl V;(repeat (first|refine I7 hn ?_|refine P7 hn ?_|refine R5 hn ?_|refine O9 hn ?_|refine P8 hn ?_|refine N9 hn ?_|refine b7 hn ?_));refine jZ (fun B=>?_) (fun A=>?_)
        · have I:(3:Int)<=(y.lines.length:Int):=by simpa using B
          have hl:Y3 c f y=⟨y.site,y.aB,true,[]⟩:=by unfold Y3;rw[Mt O,Mu I]
          (repeat (first|refine I7 hn ?_|refine P7 hn ?_|refine R5 hn ?_|refine O9 hn ?_|refine P8 hn ?_|refine N9 hn ?_|refine b7 hn ?_));refine AN (by simpa using b) (fun d a=>?_);have a:((u6 z).set k (R4 y++[.ad g.v]))[k]?=some d:=a;obtain rfl:d=R4 y++[.ad g.v]:=oI (a.symm.trans m);refine Exists.intro ((u6 z).set k [.int y.site.cls,.str y.site.name,.int y.site.pos,.int y.aB,.bool true,.ad g.v]) (AN (by show bz (((u6 z).set k (R4 y++[.ad g.v])).set k [AV.int y.site.cls,.str y.site.name,.int y.site.pos,.int y.aB,.bool true,.ad g.v]) _;rw[List.set_set];exact Q8 _) ?_);have K:((u6 z).set k [AV.int y.site.cls,.str y.site.name,.int y.site.pos,.int y.aB,.bool true,.ad g.v])[k]?=some [AV.int y.site.cls,.str y.site.name,.int y.site.pos,.int y.aB,.bool true,.ad g.v]:=by rw[MQ,Mu rfl,Mu b]
          refine AN (by simpa using b) (fun d a=>?_);have a:((u6 z).set k [AV.int y.site.cls,.str y.site.name,.int y.site.pos,.int y.aB,.bool true,.ad g.v])[k]?=some d:=a;obtain rfl:d=[AV.int y.site.cls,.str y.site.name,.int y.site.pos,.int y.aB,.bool true,.ad g.v]:=oI (a.symm.trans K);refine Exists.intro ((u6 z).set k [.int y.site.cls,.str y.site.name,.int y.site.pos,.int y.aB,.bool true,.aP]) (AN (by show bz (((u6 z).set k [AV.int y.site.cls,.str y.site.name,.int y.site.pos,.int y.aB,.bool true,.ad g.v]).set k [AV.int y.site.cls,.str y.site.name,.int y.site.pos,.int y.aB,.bool true,.aP]) _;rw[List.set_set];exact Q8 _) ?_);have L:((u6 z).set k [AV.int y.site.cls,.str y.site.name,.int y.site.pos,.int y.aB,.bool true,.aP])[k]?=some [AV.int y.site.cls,.str y.site.name,.int y.site.pos,.int y.aB,.bool true,.aP]:=by rw[MQ,Mu rfl,Mu b]
          (repeat (first|refine I7 hn ?_|refine P7 hn ?_|refine R5 hn ?_|refine O9 hn ?_|refine P8 hn ?_|refine N9 hn ?_|refine b7 hn ?_));refine C _ _ ?_;refine Z8.gh (Gh.fA (r:=102) (i:=k) (off:=5) (j:=106) (j':=107) (isz:=2) (ie:=167) rfl L rfl rfl rfl rfl rfl rfl) (fun _=>?_);refine Z8.done ?_;refine⟨⟨none,0,0⟩,[(104,106),(105,107)],trivial,⟨⟨rfl,rfl,trivial⟩,⟨?_,rfl,?_,rfl,trivial⟩,rfl,rfl⟩⟩
          · refine congrArg (fun q=>some (Obj.row 6 q 159)) ?_;show((u6 z).set k [AV.int y.site.cls,.str y.site.name,.int y.site.pos,.int y.aB,.bool true,.aP]).set k [AV.int y.site.cls,.str y.site.name,.int y.site.pos,.int y.aB,.bool true,.ad (⟨none,0,0⟩:Hd).v]=(u6 z).set k (R4 (Y3 c f y)++[.ad (⟨none,0,0⟩:Hd).v]);rw[List.set_set,hl];rfl
          · refine congrArg (fun q=>some (Obj.row 2 q 167)) ?_;show[]=MF V5 (Y3 c f y).lines;rw[hl];rfl
        · have I:¬(3:Int)<=(y.lines.length:Int):=by simpa using A
          have hl:Y3 c f y=⟨y.site,y.aB,y.many,y.lines++[⟨c,f⟩]⟩:=by unfold Y3;rw[Mt O,Mt I]
          refine vw hn y7 ?_;refine AN (by simpa using b) (fun d a=>?_);have a:((u6 z).set k (R4 y++[.ad g.v]))[k]?=some d:=a;obtain rfl:d=R4 y++[.ad g.v]:=oI (a.symm.trans m);refine AN rfl ?_;refine Exists.intro (MF V5 [⟨c,f⟩]) (AN aT ?_);refine AN ?_ (Exists.intro (MF V5 (y.lines++[⟨c,f⟩])) (AN (vR (Q8 _)) ?_))
          · show((y.lines.map V5).length+1)*16<=_;rw[MP];exact E
          refine AN (by simpa using b) (AN ?_ ?_)
          · intro d a;have a:((u6 z).set k (R4 y++[.ad g.v]))[k]?=some d:=a;obtain rfl:d=R4 y++[.ad g.v]:=oI (a.symm.trans m);show 5<6;omega
          refine C _ _ ?_;refine Z8.gh (Gh.bZ 102 106 rfl rfl rfl (fun _=>rfl) rfl) (fun S=>?_);refine Z8.done ?_;refine⟨S,[(104,54),(105,106)],trivial,⟨⟨rfl,rfl,trivial⟩,⟨?_,rfl,?_,rfl,trivial⟩,rfl,rfl⟩⟩
          · refine congrArg (fun q=>some (Obj.row 6 q 159)) ?_;show hC ((u6 z).set k (R4 y++[.ad g.v])) k 5 (.ad S.v)=(u6 z).set k (R4 (Y3 c f y)++[.ad S.v]);unfold hC;rw[m,hl];show((u6 z).set k _).set k _=_;rw[List.set_set];rfl
          · refine congrArg (fun q=>some (Obj.row 2 q 167)) ?_;show MF V5 (y.lines++[⟨c,f⟩])=MF V5 (Y3 c f y).lines;rw[hl]
  intro q;refine q4n _ _ ?_;have hat4:((u6 z).set k (R4 (Y3 c f y)++[.ad q.v]))[k]?=some (R4 (Y3 c f y)++[.ad q.v]):=by rw[MQ,Mu rfl,Mu b]
  have hzk:k<z.length:=(Lx.1 w).1;have X:(Z0 (z.set k (q,R4 (Y3 c f y),(Y3 c f y).lines.map V5))).Perm ((q,(Y3 c f y).lines.map V5)::(Z0 z).eraseIdx k):=by
    rw[show Z0 (z.set k (q,R4 (Y3 c f y),(Y3 c f y).lines.map V5))=(Z0 z).set k (q,(Y3 c f y).lines.map V5) by simp[Z0,List.map_set]];exact set_perm (by simpa[Z0] using hzk)
  show j6 prog D _ _ _ _;refine j6.gh (Gh.mR (h:=q) (ls:=(Y3 c f y).lines.map V5) (l':=Z0 (z.set k (q,R4 (Y3 c f y),(Y3 c f y).lines.map V5))) 104 105 103 rfl rfl rfl X rfl rfl rfl) (fun _=>?_);have hz2:(z.set k (q,R4 (Y3 c f y),(Y3 c f y).lines.map V5)).map (·.2)=((bf (fun t:Ce=>decide (t.site=s)) ⟨s,e,false,[]⟩ l).1.modify (bf (fun t:Ce=>decide (t.site=s)) ⟨s,e,false,[]⟩ l).2 (iV e c f)).map dH:=by
    have h2:(bf (fun t:Ce=>decide (t.site=s)) ⟨s,e,false,[]⟩ l).2=k:=hq4;have I:z.map (·.2)=(bf (fun t:Ce=>decide (t.site=s)) ⟨s,e,false,[]⟩ l).1.map dH:=Y;have h4:(bf (fun t:Ce=>decide (t.site=s)) ⟨s,e,false,[]⟩ l).1[k]?=some x:=Z;rw[h2,xF h4,List.map_set,List.map_set,I];unfold iV;rw[<-hy];rfl
  refine j6.gh (Gh.close 11 102 103 108 (z.set k (q,R4 (Y3 c f y),(Y3 c f y).lines.map V5)) rfl rfl rfl (by show(u6 z).set k _=_;simp[u6,List.map_set]) rfl hz2 rfl rfl rfl rfl rfl) (fun _=>?_);show j6 prog D _ _ _ _;refine j6.flat 11 108 109 rfl rfl rfl rfl rfl ?_;rw[Cz];(repeat (first|refine I7 hn ?_|refine P7 hn ?_|refine R5 hn ?_|refine O9 hn ?_|refine P8 hn ?_|refine N9 hn ?_|refine b7 hn ?_));exact⟨[(0,109)],_,rfl,rfl,⟨rfl,trivial⟩,rfl,rfl,rfl,rfl,rfl⟩
def Gl {N a0 a1 a2 a3 a4 r} (h:sI N a0 a1 a2 a3 a4=some r):Spec prog 129 [] [ke a0,.agg (Q7 a1),.agg (bW a2),.int a3,.str a4] (.ab [.aL 0,.int r.2.1,.int r.2.2.1,.bool r.2.2.2]) [(0,d70 r.1)] [0]:=by
 refine so func129 ntmps129 fun j hn=>?_;unfold sI at h;refine B [3,2,3] fun _ e h=>?_;refine cA (HB e) ?_;refine S [2] ?_;refine Jb 33 hn h [0,3,4,6,7,14] [6,7] (fun _ h g=>?_) ?_
 ·refine kd [0,3,4,6,7,14] [6,7] ?_;refine I [5] ?_ ?_<;>intro _ h
  ·exact Sj [0,13,0]
  exact Sj [0]
 intro i h;refine I [4] ?_ ?_<;>intro _ h
 ·refine B [3] fun _ f h=>?_;refine cA (jT f) ?_;refine B [3] fun _ a h=>?_;refine cA ((uj a).sw 0 42) ?_;exact Sr [7] [(0,42)]
 refine B [1,3] fun _ b h=>?_;refine cA (jT b) ?_;refine I [2,3,4] ?_ ?_<;>intro _ h
 ·refine kd [0,17,18] [] ?_;refine B [3] fun _ c h=>?_;refine cA ((uj c).sw 0 55) ?_;exact Sr [7] [(0,55)]
 refine S [1] ?_;refine kd [0,3,6,7,17,18] [6,7] ?_;refine B [3] fun _ d h=>?_;refine cA ((HL N _ _ _ _ _ _ d).sw 0 64) ?_;exact Sr [7] [(0,64)]
def Gd (N:Nat) (l:List Tl) (s:Fit l.length 56) (i:∀t∈l,Fit t.a7.length 16):Spec prog 62 [] [.sl 4 (l.map hX)] (.cN 0) [(0,.nest 4 162 2 167 (l.map dI))] [0]:=by
  refine Spec.of fI func62 rfl ntmps62 y7 rfl rfl rfl fun u hn=>?_;(repeat (first|refine I7 hn ?_|refine P7 hn ?_|refine R5 hn ?_|refine O9 hn ?_|refine P8 hn ?_|refine N9 hn ?_|refine b7 hn ?_));refine O1 (fun c=>?_);(repeat (first|refine I7 hn ?_|refine P7 hn ?_|refine R5 hn ?_|refine O9 hn ?_|refine P8 hn ?_|refine N9 hn ?_|refine b7 hn ?_));refine j6.bK 3 3 4 162 rfl rfl rfl ?_;refine j6.gh (Gh.mQ 100 2 167 rfl rfl) (fun _=>?_);refine j6.loop (ι:={p:Nat×List (Hd×List AV×List (List AV)) // p.1<=l.length/\p.2.map (·.2)=(l.take p.1).map dI}) (fun p=>[(6,.sl 4 (l.map hX)),(7,.int l.length),(8,.int p.1.1),(3,.aL 3)])
    (fun p=>[(3,.row 4 (u6 p.1.2) 162),(100,.pins 2 (Z0 p.1.2) 167)]) (fun p=>l.length-p.1.1) ⟨(0,[]),d9,rfl⟩ [] ?_ ?_ ?_
  · exact⟨⟨rfl,rfl,rfl,rfl,trivial⟩,⟨rfl,rfl,trivial⟩,rfl,rfl⟩
  · intro k;rw[hn];rfl
  rintro⟨⟨k,z⟩,o,b⟩;have o:k<=l.length:=o;have b:z.map (·.2)=(l.take k).map dI:=b;(repeat (first|refine I7 hn ?_|refine P7 hn ?_|refine R5 hn ?_|refine O9 hn ?_|refine P8 hn ?_|refine N9 hn ?_|refine b7 hn ?_));refine jZ (fun a=>?_) (fun j=>?_)
  · have a:k<l.length:=by have:(k:Int)<(l.length:Int):=a;omega
    (repeat (first|refine I7 hn ?_|refine P7 hn ?_|refine R5 hn ?_|refine O9 hn ?_|refine P8 hn ?_|refine N9 hn ?_|refine b7 hn ?_));refine AN d9 (AN (by simpa using a) ?_);intro w f r;obtain⟨x,d,rfl⟩:=ER f;have d:l[k]?=some x:=d;(repeat (first|refine I7 hn ?_|refine P7 hn ?_|refine R5 hn ?_|refine O9 hn ?_|refine P8 hn ?_|refine N9 hn ?_|refine b7 hn ?_));show L9 _ _ _ _ _;refine L9.a_ ((uE N x.a7 x.a7 (IX N (i x (MI d)))).sw 0 14) (by first|exact kL rfl|((repeat (refine AN rfl ?_));exact trivial)) (by(repeat (refine AN rfl ?_));exact trivial) rfl ?_;refine j6.gh (Gh.tq 5 3 14 100 rfl rfl rfl rfl rfl rfl rfl) (fun h=>?_);(repeat (first|refine I7 hn ?_|refine P7 hn ?_|refine R5 hn ?_|refine O9 hn ?_|refine P8 hn ?_|refine N9 hn ?_|refine b7 hn ?_));refine Exists.intro [[.int x.site.cls,.str x.site.name,.int x.site.pos,.ad h.v]] (AN aT ?_);have n:(u6 z).length=k:=by
      have:=jb b;rw[Mk] at this;simp only[u6,MP];omega
    refine AN ?_ (Exists.intro (u6 (z++[(h,dI x)])) (AN (by rw[uL];exact Q8 _) ?_))
    · show((u6 z).length+1)*56<=_;rw[n];exact Nat.le_trans (Ml 56 a) s
    (repeat (first|refine I7 hn ?_|refine P7 hn ?_|refine R5 hn ?_|refine O9 hn ?_|refine P8 hn ?_|refine N9 hn ?_|refine b7 hn ?_));refine MA (AN (xg a c) ?_);have m:(z++[(h,dI x)]).map (·.2)=(l.take (k+1)).map dI:=by
      rw[xX d,List.map_append,List.map_append,show z.map (·.2)=(l.take k).map dI from b];rfl
    refine⟨⟨(k+1,z++[(h,dI x)]),a,m⟩,[(3,19)],by show l.length-(k+1)<l.length-k;omega,⟨⟨rfl,rfl,rfl,rfl,trivial⟩,⟨rfl,?_,trivial⟩,rfl,rfl⟩⟩
    · exact congrArg (fun q=>some (Obj.pins 2 q 167)) (vH z (h,dI x)).symm
  · have e:k=l.length:=by have:¬(k:Int)<(l.length:Int):=j;omega
    subst e;have b:z.map (·.2)=l.map dI:=by
      have:z.map (·.2)=(l.take l.length).map dI:=b;rwa [List.take_length] at this
    refine P8 hn ?_;show j6 prog u _ _ _ _;refine j6.gh (Gh.close 3 3 100 101 z rfl rfl rfl rfl rfl b rfl rfl rfl rfl rfl) ?_;intro _;(repeat (first|refine I7 hn ?_|refine P7 hn ?_|refine R5 hn ?_|refine O9 hn ?_|refine P8 hn ?_|refine N9 hn ?_|refine b7 hn ?_));exact⟨[(0,101)],_,rfl,rfl,⟨rfl,trivial⟩,rfl,rfl,rfl,rfl,rfl⟩
def HG (N:Nat) (l:List Tl) (s:St) (c:Int) (r:List Tl) (h:sU N l s c=some r):Spec prog 130 [] [.sl 4 (l.map hX),.agg (bW s),.int c] (.aL 0) [(0,.row 4 (r.map hX) 162)] [0]:=by
  unfold sU at h;obtain⟨M,h⟩:=iz h;obtain rfl:=oI h;rw[IT,MK] at M;have hf:Fit (l.length+1) 56:=MR M.1;have K:∀t∈l,Fit (t.a7.length+1) 16:=fun t Y=>MR (M.2 t Y);clear h M;refine Spec.of fI func130 rfl ntmps130 y7 rfl rfl rfl fun E hn=>?_;refine I7 hn ?_;show j6 prog E _ _ _ _;refine j6.gh (Gh.bF 4 4 rfl rfl rfl) ?_;intro _;show j6 prog E _ _ _ _;refine j6.gh (Gh.bF 5 5 rfl rfl rfl) ?_;intro _;(repeat (first|refine I7 hn ?_|refine P7 hn ?_|refine R5 hn ?_|refine O9 hn ?_|refine P8 hn ?_|refine N9 hn ?_|refine b7 hn ?_));show L9 _ _ _ _ _;refine L9.a_ ((Gd N l (Nat.le_trans (Ml _ (Nat.le_succ _)) hf) (fun t Y=>Nat.le_trans (Ml _ (Nat.le_succ _)) (K t Y))).sw 0 11) (by first|exact kL rfl|((repeat (refine AN rfl ?_));exact trivial)) (by(repeat (refine AN rfl ?_));exact trivial) rfl ?_;(repeat (first|refine I7 hn ?_|refine P7 hn ?_|refine R5 hn ?_|refine O9 hn ?_|refine P8 hn ?_|refine N9 hn ?_|refine b7 hn ?_));show L9 _ _ _ _ _;refine L9.hZ (Eh (Lq N s l) (fun _ _ h=>GZ h)) ?_ rfl ?_
  · show dZ [.sl 4 (dy 2 (l.map dI)),.fn 171 [.fp (bW s)]] _;rw[DO];exact kL rfl
  show j6 prog E _ _ _ _;refine j6.gh (Gh.open 7 11 102 103 rfl rfl rfl rfl rfl rfl (fun _=>rfl)) ?_;rintro⟨z,F⟩;refine j6.cut (ι:={ q:Nat×Tl×Hd×List (Hd×List AV×List (List AV)) // q.2.2.2[q.1]?=some (q.2.2.1,dI q.2.1)/\q.2.2.2.map (·.2)=(bf (fun t=>decide (t.site=s)) ⟨s,[]⟩ l).1.map dI/\(bf (fun t=>decide (t.site=s)) ⟨s,[]⟩ l).1[q.1]?=some q.2.1/\(bf (fun t=>decide (t.site=s)) ⟨s,[]⟩ l).2=q.1/\Fit (q.2.1.a7.length+1) 16 })
    (fun q=>[(7,.aL 102),(8,.int q.1.1),(5,.fp [.int c])]) (fun q=>[(102,.row 4 (u6 q.1.2.2.2) 162),(103,.pins 2 ((Z0 q.1.2.2.2).eraseIdx q.1.1) 167),(104,.row 2 (q.1.2.1.a7.map V5) 167),(105,.eqv 104 q.1.2.2.1.v)]) ?_ ?_ ?_
  · (repeat (first|refine I7 hn ?_|refine P7 hn ?_|refine R5 hn ?_|refine O9 hn ?_|refine P8 hn ?_|refine N9 hn ?_|refine b7 hn ?_));rcases vZ (fun t:Tl=>decide (t.site=s)) l with⟨k,x,e1,B,e3,O⟩|⟨e1,B⟩
    · refine jZ (fun w=>?_) (fun u=>?_)
      · rw[e1] at w;omega
      · obtain⟨h,L⟩:=Dw F B;have T:(Z0 z).Perm ((h,x.a7.map V5)::(Z0 z).eraseIdx k):=by
          have hk:(Z0 z)[k]?=some (h,x.a7.map V5):=(by simp[Z0,L,dI]);obtain⟨hl,hv⟩:=Lx.1 hk;rw[<-hv];exact(List.ai hl).symm
        show j6 prog E _ _ _ _;refine j6.gh (Gh.mS 103 104 105 rfl T rfl rfl rfl rfl rfl) ?_;intro _;refine N9 hn ?_;have ex:bf (fun t:Tl=>decide (t.site=s)) ⟨s,[]⟩ l=(l,k):=by unfold bf;rw[O]
        refine⟨⟨(k,x,h,z),L,by rw[ex];exact F,by rw[ex];exact B,by rw[ex],K x (MI B)⟩,[],⟨⟨rfl,congrArg AV.int e1,rfl,trivial⟩,⟨rfl,rfl,rfl,rfl,trivial⟩,rfl,rfl⟩⟩
    · refine jZ (fun w=>?_) (fun u=>?_)
      · (repeat (first|refine I7 hn ?_|refine P7 hn ?_|refine R5 hn ?_|refine O9 hn ?_|refine P8 hn ?_|refine N9 hn ?_|refine b7 hn ?_));rintro _ rfl hlen;refine j6.ops (jt hn 6 ?_);refine Exists.intro [[.int s.cls,.str s.name,.int s.pos,.aP]] (AN aT ?_);refine AN ?_ (Exists.intro (u6 z++[[AV.int s.cls,.str s.name,.int s.pos,.aP]]) (AN (Q8 _) ?_))
        · show((u6 z).length+1)*56<=_;rw[show(u6 z).length=l.length by simp only[u6,MP];exact jb F];exact hf
        have ah:(u6 z++[[AV.int s.cls,.str s.name,.int s.pos,.aP]])[l.length]?=some [AV.int s.cls,.str s.name,.int s.pos,.aP]:=by
          rw[MS (by simp[u6,jb F])];simp[u6,jb F]
        show cd prog E _ _ _ _ _;refine cd.gh (Gh.fA (r:=23) (i:=l.length) (off:=3) (j:=104) (j':=105) (isz:=2) (ie:=167) rfl ah rfl rfl rfl rfl rfl rfl) ?_;intro _;refine cd.done ?_;have ex:bf (fun t:Tl=>decide (t.site=s)) ⟨s,[]⟩ l=(l++[⟨s,[]⟩],l.length):=by unfold bf;rw[B]
        have f:=jb F;refine⟨⟨(l.length,⟨s,[]⟩,⟨none,0,0⟩,z++[(⟨none,0,0⟩,dI ⟨s,[]⟩)]),?_,?_,?_,?_,?_⟩,[(102,23)],⟨⟨rfl,?_,rfl,trivial⟩,⟨?_,?_,rfl,rfl,trivial⟩,rfl,rfl⟩⟩
        · show(z++[_])[l.length]?=_;rw[MS d9];simp[f]
        · rw[ex];show MF (fun p:Hd×List AV×List (List AV)=>p.2) (z++[_])=MF dI (l++[_]);rw[List.map_append,List.map_append,F];rfl
        · rw[ex];show(l++[_])[l.length]?=_;rw[MS (It _)];simp
        · rw[ex]
        · show(0+1)*16<=_;decide
        · exact congrArg AV.int (by simp[u6,f])
        · refine congrArg (fun q=>some (Obj.row 4 q 162)) ?_;show(u6 z++[_]).set l.length _=u6 (z++[_]);rw[uL,List.set_append_right _ _ (by simp[u6,f])];simp[u6,f,dI,eb]
        · refine congrArg (fun q=>some (Obj.pins 2 q 167)) ?_;show Z0 z=(Z0 (z++[_])).eraseIdx l.length;rw[vH,List.eraseIdx_append_of_length_le (by simp[Z0,f])];simp[Z0,f]
      · rw[e1] at u;omega
  · intro k;rw[hn];rfl
  rintro⟨⟨k,x,h,z⟩,A,U,V,W,X⟩;have A:z[k]?=some (h,dI x):=A;have b:k<(u6 z).length:=by
    have:=(Lx.1 A).1;simpa[u6] using this
  have ah:(u6 z)[k]?=some (eb x++[.ad h.v]):=by simp[u6,A,dI]
  (repeat (first|refine I7 hn ?_|refine P7 hn ?_|refine R5 hn ?_|refine O9 hn ?_|refine P8 hn ?_|refine N9 hn ?_|refine b7 hn ?_));refine AN d9 (AN (by simpa using b) ?_);refine AN (by simpa using b) (fun d a=>?_);have a:(u6 z)[k]?=some d:=a;obtain rfl:d=eb x++[.ad h.v]:=oI (a.symm.trans ah);refine AN rfl ?_;show L9 _ _ _ _ _;refine L9.hZ (zZ (Lp N c x.a7) (fun _ _ h=>GS h)) (kL rfl) rfl ?_;refine j6.cut (ι:={ q:Nat×Ln×Hd×List Ln // q.2.2.2=(bf (fun y=>decide (y.cls=c)) ⟨c,0⟩ x.a7).1/\(bf (fun y=>decide (y.cls=c)) ⟨c,0⟩ x.a7).2=q.1/\q.2.2.2[q.1]?=some q.2.1 })
    (fun q=>[(7,.aL 102),(8,.int k),(9,.int q.1.1)]) (fun q=>[(102,.row 4 ((u6 z).set k (eb x++[.ad q.1.2.2.1.v])) 162),(103,.pins 2 ((Z0 z).eraseIdx k) 167),(104,.row 2 (q.1.2.2.2.map V5) 167),(105,.eqv 104 q.1.2.2.1.v)]) ?_ ?_ ?_
  · (repeat (first|refine I7 hn ?_|refine P7 hn ?_|refine R5 hn ?_|refine O9 hn ?_|refine P8 hn ?_|refine N9 hn ?_|refine b7 hn ?_));rcases vZ (fun y:Ln=>decide (y.cls=c)) x.a7 with⟨j,y,e1,B,e3,O⟩|⟨e1,B⟩
    · refine jZ (fun w=>?_) (fun u=>?_)
      · rw[e1] at w;omega
      · refine N9 hn ?_;have ex:bf (fun y:Ln=>decide (y.cls=c)) ⟨c,0⟩ x.a7=(x.a7,j):=by unfold bf;rw[O]
        refine⟨⟨(j,y,h,x.a7),by rw[ex],by rw[ex],B⟩,[],⟨⟨rfl,rfl,congrArg AV.int e1,trivial⟩,⟨?_,rfl,rfl,rfl,trivial⟩,rfl,rfl⟩⟩;refine congrArg (fun q=>some (Obj.row 4 q 162)) ?_;show u6 z=(u6 z).set k _;exact(xO ah).symm
    · refine jZ (fun w=>?_) (fun u=>?_)
      · (repeat (first|refine I7 hn ?_|refine P7 hn ?_|refine R5 hn ?_|refine O9 hn ?_|refine P8 hn ?_|refine N9 hn ?_|refine b7 hn ?_));refine AN d9 (AN (by simpa using b) ?_);refine AN (by simpa using b) (fun d a=>?_);have a:(u6 z)[k]?=some d:=a;obtain rfl:d=eb x++[.ad h.v]:=oI (a.symm.trans ah);refine AN rfl ?_;rintro _ rfl S;refine j6.snoc (vw hn y7 ?_);refine AN d9 (AN (by simpa using b) ?_);refine AN (by simpa using b) (fun d a=>?_);have a:(u6 z)[k]?=some d:=a;obtain rfl:d=eb x++[.ad h.v]:=oI (a.symm.trans ah);refine AN rfl ?_;refine Exists.intro (MF V5 [⟨c,0⟩]) (AN aT ?_);refine AN ?_ (Exists.intro (MF V5 (x.a7++[⟨c,0⟩])) (AN (vR (Q8 _)) ?_))
        · show((x.a7.map V5).length+1)*16<=_;rw[MP];exact X
        refine AN d9 (AN (by simpa using b) ?_);refine AN (by simpa using b) (AN ?_ ?_)
        · intro d a;have a:(u6 z)[k]?=some d:=a;obtain rfl:d=eb x++[.ad h.v]:=oI (a.symm.trans ah);show 3<4;omega
        show Z8 E _ _ _;refine Z8.gh (Gh.bZ 102 106 rfl rfl rfl (fun _=>rfl) rfl) (fun g=>?_);refine Z8.done ?_;have ex:bf (fun y:Ln=>decide (y.cls=c)) ⟨c,0⟩ x.a7=(x.a7++[⟨c,0⟩],x.a7.length):=by unfold bf;rw[B]
        refine⟨⟨(x.a7.length,⟨c,0⟩,g,x.a7++[⟨c,0⟩]),by rw[ex],by rw[ex],l8⟩,[(104,49),(105,106)],⟨⟨rfl,rfl,?_,trivial⟩,⟨?_,rfl,rfl,rfl,trivial⟩,rfl,rfl⟩⟩
        · exact congrArg AV.int l8
        · refine congrArg (fun q=>some (Obj.row 4 q 162)) ?_;show hC (u6 z) k 3 (.ad g.v)=(u6 z).set k _;unfold hC;rw[ah];rfl
      · rw[e1] at u;omega
  · intro k;rw[hn];rfl
  rintro⟨⟨j,y,m,G⟩,Q,R,e⟩;have J:((u6 z).set k (eb x++[.ad m.v]))[k]?=some (eb x++[.ad m.v]):=by rw[MQ,Mu rfl,Mu b]
  have e:G[j]?=some y:=e;have C:j<G.length:=(Lx.1 e).1;have D:(G.map V5)[j]?=some (V5 y):=by simp[e]
  (repeat (first|refine I7 hn ?_|refine P7 hn ?_|refine R5 hn ?_|refine O9 hn ?_|refine P8 hn ?_|refine N9 hn ?_|refine b7 hn ?_));refine AN d9 (AN (by simpa using b) ?_);refine AN (by simpa using b) (fun d a=>?_);have a:((u6 z).set k (eb x++[.ad m.v]))[k]?=some d:=a;obtain rfl:d=eb x++[.ad m.v]:=oI (Eq.trans (Eq.symm a) J);refine AN rfl ?_;refine AN d9 (AN (by simpa using C) ?_);refine AN (by simpa using C) (fun H n=>?_);have n:(G.map V5)[j]?=some H:=n;obtain rfl:H=V5 y:=oI (Eq.trans (Eq.symm n) D);refine Or.inr ?_;refine AN d9 (AN (by simpa using C) ?_);have hzk:k<z.length:=(Lx.1 A).1;have Z:G.set j ⟨y.cls,wr (y.found+1)⟩=fk c x.a7:=by
    have h1:G=(bf (fun y=>decide (y.cls=c)) ⟨c,0⟩ x.a7).1:=Q;have P:(bf (fun y=>decide (y.cls=c)) ⟨c,0⟩ x.a7).2=j:=R;unfold fk;simp only;rw[P,<-h1,xF e]
  refine AN (by simpa using C) (fun I o=>?_);have o:(G.map V5)[j]?=some I:=o;obtain rfl:I=V5 y:=oI (Eq.trans (Eq.symm o) D);refine Exists.intro (MF V5 (fk c x.a7)) (AN (by rw[<-Z];exact DA e aT) ?_);have T:(Z0 (z.set k (m,eb x,(fk c x.a7).map V5))).Perm ((m,(fk c x.a7).map V5)::(Z0 z).eraseIdx k):=by
    rw[show Z0 (z.set k (m,eb x,(fk c x.a7).map V5))=(Z0 z).set k (m,(fk c x.a7).map V5) by simp[Z0,List.map_set]];exact set_perm (by simpa[Z0] using hzk)
  show j6 prog E _ _ _ _;refine j6.gh (Gh.mR (h:=m) (ls:=(fk c x.a7).map V5) (l':=Z0 (z.set k (m,eb x,(fk c x.a7).map V5))) 104 105 103 rfl rfl rfl T rfl rfl rfl) (fun _=>?_);have hz2:(z.set k (m,eb x,(fk c x.a7).map V5)).map (·.2)=(tQ s c l).map dI:=by
    have P:(bf (fun t=>decide (t.site=s)) ⟨s,[]⟩ l).2=k:=W;have h3:z.map (·.2)=(bf (fun t=>decide (t.site=s)) ⟨s,[]⟩ l).1.map dI:=U;have h4:(bf (fun t=>decide (t.site=s)) ⟨s,[]⟩ l).1[k]?=some x:=V;unfold tQ;simp only;rw[P,xF h4,List.map_set,List.map_set,h3];rfl
  refine j6.gh (Gh.close 7 102 103 107 (z.set k (m,eb x,(fk c x.a7).map V5)) rfl rfl rfl (by show(u6 z).set k _=_;simp[u6,List.map_set]) rfl hz2 rfl rfl rfl rfl rfl) (fun _=>?_);show j6 prog E _ _ _ _;refine j6.flat 7 107 108 rfl rfl rfl rfl rfl ?_;rw[DO];(repeat (first|refine I7 hn ?_|refine P7 hn ?_|refine R5 hn ?_|refine O9 hn ?_|refine P8 hn ?_|refine N9 hn ?_|refine b7 hn ?_));exact⟨[(0,108)],_,rfl,rfl,⟨rfl,trivial⟩,rfl,rfl,rfl,rfl,rfl⟩
def GI {N a0 a1 a2 b0 b1 r} (h:ox N a0 a1 a2 b0 b1=some r):Spec prog 128 [(1048,.box (eL b0) 153)] [.agg (bW a0),.int a1,.str a2,.ptr 1048 0,.fp (Q7 b1)] (.ab [.int r.1,.int r.2.1]) [(1048,.box (eL r.2.2) 153)] []:=by
 refine so func128 ntmps128 fun e hn=>?_;unfold ox at h;refine B [3,3] fun _ a h=>?_;refine cA ((Gl a).sw 0 21) ?_;refine kd [1,3,5,10,11,12,13] [5,21,1048] ?_;refine B [3,3] fun _ b h=>?_;refine cA ((HG N _ _ _ _ b).sw 0 32) ?_;refine S [2,3] ?_;refine J e0 hn h (fun s=>[]) (fun s=>[(1048,.box [E9 b0.world.a7,jN b0.world.heap,.int b0.world.aB,.int b0.ez.value.k,.int b0.ez.value.n,.int b0.ez.err,.int b0.ez.aH,.aL 21,.aL 32,.int s.1,.int s.2] 153)]) [3,11,12] [21,32] (fun _ h g=>?_) ?_
 ·refine I [4] ?_ ?_<;>intro _ h
  ·exact Sj [5,12]
  exact Sj [5,12]
 rintro⟨c,d⟩ h;refine S [3] ?_;refine j6.ax 21 rfl ?_;refine j6.ax 32 rfl ?_;exact Sr [7]
def FJ {N a0 a1 a2 a3 r} (h:nF N a0 a1 a2 a3=some r):Spec prog 134 [] [.agg (Q7 a0),jA a1,.int a2,.int a3] (.aL 0) [(0,w3 r)] [0]:=by
 refine so func134 ntmps134 fun w hn=>?_;unfold nF at h;refine S [3,2,2] ?_;refine Jb 37 hn h [1,2,3,4] [4] (fun _ h g=>?_) ?_
 ·refine I [5] ?_ ?_<;>intro _ h
  ·exact Sj [0]
  refine I [0,13,0] ?_ ?_<;>intro _ h
  ·exact Sj [0]
  refine I [0] ?_ ?_<;>intro _ h
  ·exact Sj [0]
  refine B [0] fun _ o h=>?_;refine H5 o ?_;exact Sj [0,13,0]
 intro u h;refine I [4] ?_ ?_<;>intro _ h
 ·refine S [3] ?_;refine nR 8 208 1 3 ?_;exact Sr [7] [(0,208)]
 refine B [1,3] fun _ f h=>?_;refine H5 f ?_;refine B [] fun p i h=>?_;refine H5 i ?_;refine S [3,2,3] ?_;refine O1 fun d=>?_;refine nR 10 210 1 3 ?_;refine LR e0 hn ([]:List Int) (fun l k v=>mj N a0 a1 a2 p l k v) h (fun a v=>[(51,.int (a:Int))]) (fun a v=>[(210,w3 v)]) [1,2,4,9,10,49,50] [4] [] (fun s=>[]) (fun s=>[(210,w3 s)]) [10] [] ?_ ?_ ?_
 ·intro _ g a j h _;rw[mj] at h;exact Sj [3,2,4,0,20]
 ·intro _ g a j t n h _ b _;rw[mj] at h;refine S [3,2,4,0,1,2,6,3] ?_;refine W9 b ?_;refine S [3,2,3] ?_;refine J e0 hn h (fun s=>[(13,.int s)]) (fun s=>[]) [1,2,4,9,10,49,50,51] [4,210] (fun _ h g=>?_) ?_
  ·refine I [4] ?_ ?_<;>intro _ h
   ·refine kd [1,2,4,9,10,11,12,49,50,51] [4,12,210] ?_;refine B [8] fun _ e h=>?_;refine cA (Ga e) ?_;exact je
   exact Sj [1]
  intro m h;refine S [5] ?_;refine bS fN [m] ?_;refine A [] fun c h=>?_;refine aM c ?_;refine S [5] ?_;refine MA (AN (U9 b d) ?_);exact le (j++[m]) [(210,76)]
 intro q h;exact Sr [3,7] [(0,210)]
def Fb {N a0 a1 a2 a3 a4 r} (h:rC N a0 a1 a2 a3 a4=some r):Spec prog 177 [(1000,.box [.fp (Q7 a0.w),.fp (J2 a0.m),.aL 1001,.int a0.a8,.aL 1002,.aL 1003] 260),(1001,cU a0.out),(1002,w3 a0.aJ),(1003,w3 a0.fix)] [.ptr 1000 0,.int a1,.int a2,.agg (bc a3),.fp (J2 a4)] (.ab []) [(1000,.box [.fp (Q7 r.w),.fp (J2 r.m),.aL 2,.int r.a8,.aL 3,.aL 4] 260),(2,cU r.out),(1001,.aF),(3,w3 r.aJ),(1002,.aF),(4,w3 r.fix),(1003,.aF)] [2,3,4]:=by
 refine so func177 ntmps177 fun Γ hn=>?_;unfold rC at h;refine rB 1000 2 1001 320 ?_;refine rB 1000 4 1002 321 ?_;refine rB 1000 5 1003 322 ?_;refine S [15,3,3,2] ?_;refine kd [0,1,2,4,8,10] [8,320,321,322,1000,1001,1002,1003] ?_;refine S [8,12,12,12] ?_;refine kd [0,1,2,4,8,10] [8,320,321,322,1000,1001,1002,1003] ?_;refine B [3] fun _ G h=>?_;refine cA ((H8 G).ay [(1001,320),(1002,321),(1003,322),(2,501),(3,502),(4,503)] rfl) ?_;refine B [3] fun y H h=>?_;refine cA ((H8 H).ay [(1001,501),(1002,502),(1003,503),(2,504),(3,505),(4,506)] rfl) ?_;refine S [2,3] ?_;refine LF e0 hn (y.w,y.m,y.out,y.a8,y.aJ,y.fix,a4.args) (fun l v=>Z4 N a0 l v.1 v.2.1 v.2.2.1 v.2.2.2.1 v.2.2.2.2.1 v.2.2.2.2.2.1 v.2.2.2.2.2.2) h (fun v=>[(11,.int v.2.2.2.2.2.2)]) (fun v=>[(504,cU v.2.2.1),(505,w3 v.2.2.2.2.1),(506,w3 v.2.2.2.2.2.1),(1000,.box [.fp (Q7 v.1),.fp (J2 v.2.1),.aL 504,.int v.2.2.2.1,.aL 505,.aL 506] 260)]) [0,4,10] [1001,1002,1003] [] (fun s=>[]) (fun s=>[(504,cU s.2.2.1),(505,w3 s.2.2.2.2.1),(506,w3 s.2.2.2.2.2),(1000,.box [.fp (Q7 s.1),.fp (J2 s.2.1),.aL 504,.int s.2.2.2.1,.aL 505,.aL 506] 260)]) [0,4,10] [1001,1002,1003] ?_ ?_
 ·rintro _ g ⟨v6,v7,v8,v9,v10,v11,K⟩ n29 h;rw[Z4] at h;refine I [2,3,4] ?_ ?_<;>intro _ h
  ·refine B [1,2,6,5,12] fun a A h=>?_;refine cA ((H8 A).ay [(1001,504),(1002,505),(1003,506),(2,507),(3,508),(4,509)] rfl) ?_;refine S [5,12] ?_;exact le (a.w,a.m,a.out,a.a8,a.aJ,a.fix,(wr (K-(1:Int)))) [(504,507),(505,508),(506,509)]
  exact Sj [20]
 rintro⟨L,M,O,P,Q,R⟩ h;refine S [2,3] ?_;refine j6.cc 61 rfl (fun x=>?_);refine LU e0 hn (L,M,O,P,Q,R) (fun l k v=>V4 N a0 a4 l k v.1 v.2.1 v.2.2.1 v.2.2.2.1 v.2.2.2.2.1 v.2.2.2.2.2) h (fun c v=>[(62,.int (c:Int))]) (fun c v=>[(504,cU v.2.2.1),(505,w3 v.2.2.2.2.1),(506,w3 v.2.2.2.2.2),(1000,.box [.fp (Q7 v.1),.fp (J2 v.2.1),.aL 504,.int v.2.2.2.1,.aL 505,.aL 506] 260)]) [0,4,10,61] [1001,1002,1003] [] (fun s=>[]) (fun s=>[(504,cU s.2.2.1),(505,w3 s.2.2.2.2.1),(506,w3 s.2.2.2.2.2),(1000,.box [.fp (Q7 s.1),.fp (J2 s.2.1),.aL 504,.int s.2.2.2.1,.aL 505,.aL 506] 260)]) [0,4,10] [1001,1002,1003] ?_ ?_ ?_
 ·rintro _ g c ⟨T,U,V,W,X,Y⟩ h _;rw[V4] at h;exact Sj [3,2,4,0,20]
 ·rintro _ g c ⟨T,U,V,W,X,Y⟩ n55 h f _;rw[V4] at h;refine B [3,2,4,0,1,2,6,3,3] fun _ C h=>?_;refine cA ((H8 C).ay [(1001,504),(1002,505),(1003,506),(2,510),(3,511),(4,512)] rfl) ?_;refine B [5,12,12,12] fun b D h=>?_;refine cA ((H8 D).ay [(1001,510),(1002,511),(1003,512),(2,513),(3,514),(4,515)] rfl) ?_;refine kd [0,4,10,61,62] [513,514,515,1000,1001,1002,1003] ?_;refine S [5] ?_;refine MA (AN (mA f x) ?_);exact le (b.w,b.m,b.out,b.a8,b.aJ,b.fix) [(504,513),(505,514),(506,515)]
 rintro⟨Z,v47,E,v49,v50,v51⟩ h;refine S [3,13,3] ?_;refine O1 fun z=>?_;refine LR e0 hn (Z,v47,E,v49,v50,v51) (fun l k v=>P6 N a0 a4 E l k v.1 v.2.1 v.2.2.1 v.2.2.2.1 v.2.2.2.2.1 v.2.2.2.2.2) h (fun d v=>[(89,.int (d:Int))]) (fun d v=>[(504,cU v.2.2.1),(505,w3 v.2.2.2.2.1),(506,w3 v.2.2.2.2.2),(1000,.box [.fp (Q7 v.1),.fp (J2 v.2.1),.aL 504,.int v.2.2.2.1,.aL 505,.aL 506] 260)]) [0,4,10,13,87,88] [1001,1002,1003] [] (fun s=>[]) (fun s=>[(504,cU s.2.2.1),(505,w3 s.2.2.2.2.1),(506,w3 s.2.2.2.2.2),(1000,.box [.fp (Q7 s.1),.fp (J2 s.2.1),.aL 504,.int s.2.2.2.1,.aL 505,.aL 506] 260)]) [0] [1001,1002,1003] ?_ ?_ ?_
 ·rintro _ g d ⟨v66,v67,v68,v69,v70,v71⟩ h _;rw[P6] at h;exact Sj [3,2,4,0,20]
 ·rintro _ g d ⟨v66,v67,v68,v69,v70,v71⟩ x88 F h _ e _;rw[P6] at h;refine S [3,2,4,0,1,2] ?_;refine J e0 hn h (fun s=>[]) (fun s=>[(516,cU s.2.2.1),(517,w3 s.2.2.2.2.1),(518,w3 s.2.2.2.2.2),(1000,.box [.fp (Q7 s.1),.fp (J2 s.2.1),.aL 516,.int s.2.2.2.1,.aL 517,.aL 518] 260)]) [0,4,10,13,87,88,89] [1001,1002,1003] (fun _ h g=>?_) ?_
  ·refine S [6,3] ?_;refine W9 e ?_;refine S [3] ?_;refine J e0 hn h (fun s=>[]) (fun s=>[(516,cU s.2.2.1),(517,w3 s.2.2.2.2.1),(518,w3 s.2.2.2.2.2),(1000,.box [.fp (Q7 s.1),.fp (J2 s.2.1),.aL 516,.int s.2.2.2.1,.aL 517,.aL 518] 260)]) [0,4,10,13,87,88,89] [1001,1002,1003] (fun _ h g=>?_) ?_
   ·refine S [6,3] ?_;refine J e0 hn h (fun s=>[]) (fun s=>[(516,cU s.2.2.1),(517,w3 s.2.2.2.2.1),(518,w3 s.2.2.2.2.2),(1000,.box [.fp (Q7 s.1),.fp (J2 s.2.1),.aL 516,.int s.2.2.2.1,.aL 517,.aL 518] 260)]) [0,4,10,13,87,88,89] [1001,1002,1003] (fun _ h g=>?_) ?_
    ·refine I [4] ?_ ?_<;>intro _ h
     ·refine B [5] fun _ i h=>?_;refine cA ((H8 i).ay [(1001,504),(1002,505),(1003,506),(2,516),(3,517),(4,518)] rfl) ?_;exact je
     refine S [3] ?_;refine J e0 hn h (fun s=>[]) (fun s=>[(519,cU s.2.2.1),(520,w3 s.2.2.2.2.1),(521,w3 s.2.2.2.2.2),(1000,.box [.fp (Q7 s.1),.fp (J2 s.2.1),.aL 519,.int s.2.2.2.1,.aL 520,.aL 521] 260)]) [0,4,10,13,87,88,89] [1001,1002,1003] (fun _ h g=>?_) ?_
     ·refine I [4] ?_ ?_<;>intro _ h
      ·refine kd [0,4,10,13,15,87,88,89] [15,504,505,506,1000,1001,1002,1003] ?_;refine B [5,12,12] fun _ j h=>?_;refine cA ((H8 j).ay [(1001,504),(1002,505),(1003,506),(2,519),(3,520),(4,521)] rfl) ?_;exact je
      refine S [2] ?_;refine kd [0,4,10,13,15,87,88,89,94] [15,504,505,506,1000,1001,1002,1003] ?_;refine S [3] ?_;refine Jb 115 hn h [0,4,10,13,15,87,88,89,94] [15,504,505,506,1000,1001,1002,1003] (fun _ h g=>?_) ?_
      ·refine I [4] ?_ ?_<;>intro _ h
       ·exact Sj [1]
       exact Sj [5]
      intro v125 h;refine J e0 hn h (fun s=>[]) (fun s=>[(522,cU s.2.2.1),(523,w3 s.2.2.2.2.1),(524,w3 s.2.2.2.2.2),(1000,.box [.fp (Q7 s.1),.fp (J2 s.2.1),.aL 522,.int s.2.2.2.1,.aL 523,.aL 524] 260)]) [0,4,10,13,87,88,89] [1001,1002,1003] (fun _ h g=>?_) ?_
      ·refine I [4] ?_ ?_<;>intro _ h
       ·refine B [8,12,12,12] fun _ n h=>?_;refine cA ((H8 n).ay [(1001,504),(1002,505),(1003,506),(2,522),(3,523),(4,524)] rfl) ?_;exact je
       refine S [3] ?_;refine J e0 hn h (fun s=>[]) (fun s=>[(525,cU s.2.2.1),(526,w3 s.2.2.2.2.1),(527,w3 s.2.2.2.2.2),(1000,.box [.fp (Q7 s.1),.fp (J2 s.2.1),.aL 525,.int s.2.2.2.1,.aL 526,.aL 527] 260)]) [0,4,10,13,87,88,89] [1001,1002,1003] (fun _ h g=>?_) ?_
       ·refine I [4] ?_ ?_<;>intro _ h
        ·refine B [5] fun _ o h=>?_;refine cA ((H8 o).ay [(1001,504),(1002,505),(1003,506),(2,525),(3,526),(4,527)] rfl) ?_;exact je
        refine S [3] ?_;refine J e0 hn h (fun s=>[]) (fun s=>[(528,cU s.2.2.1),(529,w3 s.2.2.2.2.1),(530,w3 s.2.2.2.2.2),(1000,.box [.fp (Q7 s.1),.fp (J2 s.2.1),.aL 528,.int s.2.2.2.1,.aL 529,.aL 530] 260)]) [0,4,10,13,87,88,89] [1001,1002,1003] (fun _ h g=>?_) ?_
        ·refine I [4] ?_ ?_<;>intro _ h
         ·refine B [5] fun _ p h=>?_;refine cA ((H8 p).ay [(1001,504),(1002,505),(1003,506),(2,528),(3,529),(4,530)] rfl) ?_;exact je
         refine S [2,3] ?_;refine Jb 146 hn h [0,4,10,13,15,87,88,89,94] [15,504,505,506,1000,1001,1002,1003] (fun _ h g=>?_) ?_
         ·refine I [4] ?_ ?_<;>intro _ h
          ·exact Sj [1]
          exact Sj [5]
         intro v158 h;refine J e0 hn h (fun s=>[]) (fun s=>[(531,cU s.2.2.1),(532,w3 s.2.2.2.2.1),(533,w3 s.2.2.2.2.2),(1000,.box [.fp (Q7 s.1),.fp (J2 s.2.1),.aL 531,.int s.2.2.2.1,.aL 532,.aL 533] 260)]) [0,4,10,13,87,88,89] [1001,1002,1003] (fun _ h g=>?_) ?_
         ·refine I [4] ?_ ?_<;>intro _ h
          ·refine B [5,12] fun _ q h=>?_;refine cA ((H8 q).ay [(1001,504),(1002,505),(1003,506),(2,531),(3,532),(4,533)] rfl) ?_;exact je
          refine S [3] ?_;refine J e0 hn h (fun s=>[]) (fun s=>[(534,cU s.2.2.1),(535,w3 s.2.2.2.2.1),(536,w3 s.2.2.2.2.2),(1000,.box [.fp (Q7 s.1),.fp (J2 s.2.1),.aL 534,.int s.2.2.2.1,.aL 535,.aL 536] 260)]) [0,4,10,13,87,88,89] [1001,1002,1003] (fun _ h g=>?_) ?_
          ·refine I [4] ?_ ?_<;>intro _ h
           ·refine B [5,13,12] fun _ t h=>?_;refine cA ((H8 t).ay [(1001,504),(1002,505),(1003,506),(2,534),(3,535),(4,536)] rfl) ?_;exact je
           refine B [5] fun _ u h=>?_;refine cA ((H8 u).ay [(1001,504),(1002,505),(1003,506),(2,537),(3,538),(4,539)] rfl) ?_;exact je [(534,537),(535,538),(536,539)]
          rintro⟨v171,v172,v173,v174,v175,v176⟩ h;exact je [(531,534),(532,535),(533,536)]
         rintro⟨v161,v162,v163,v164,v165,v166⟩ h;exact je [(528,531),(529,532),(530,533)]
        rintro⟨v148,v149,v150,v151,v152,v153⟩ h;exact je [(525,528),(526,529),(527,530)]
       rintro⟨v138,v139,v140,v141,v142,v143⟩ h;exact je [(522,525),(523,526),(524,527)]
      rintro⟨v128,v129,v130,v131,v132,v133⟩ h;exact je [(519,522),(520,523),(521,524)]
     rintro⟨v115,v116,v117,v118,v119,v120⟩ h;exact je [(516,519),(517,520),(518,521)]
    rintro⟨v105,v106,v107,v108,v109,v110⟩ h;exact je
   rintro⟨v98,v99,v100,v101,v102,v103⟩ h;exact je
  rintro⟨v91,v92,v93,v94,v95,v96⟩ h;refine S [5] ?_;refine MA (AN (U9 e z) ?_);exact le (v91,v92,v93,v94,v95,v96) [(504,516),(505,517),(506,518)]
 rintro⟨v78,v79,v80,v81,v82,v83⟩ h;exact Sr [14] [(2,504),(3,505),(4,506)]
def G1 {N a0 a1 a2 a3 r} (h:qu N a0 a1 a2 a3=some r):Spec prog 133 [] [.agg (Q7 a0),.int a1,.int a2,s3 a3] (.ab [.agg (ed r.1),.bool r.2]) [] []:=by
 refine so func133 ntmps133 fun Γ hn=>?_;unfold qu at h;refine S [3,2,2] ?_;refine Jb 41 hn h [1,2,3,4,8] [4,8] (fun _ h g=>?_) ?_
 ·refine I [5] ?_ ?_<;>intro _ h
  ·exact Sj [0]
  refine I [0,13,0] ?_ ?_<;>intro _ h
  ·exact Sj [0]
  refine I [0] ?_ ?_<;>intro _ h
  ·exact Sj [0]
  refine B [0] fun _ hx8 h=>?_;refine H5 hx8 ?_;exact Sj [0,13,0]
 intro v1 h;refine I [4] ?_ ?_<;>intro _ h
 ·exact Sr [3,7]
 refine B [1,3] fun _ R h=>?_;refine H5 R ?_;refine B [] fun F T h=>?_;refine H5 T ?_;refine j6.gh (Gh.bF 4 4 rfl rfl rfl) (fun _=>?_);refine kd [1,3,4,8,10] [8] ?_;refine S [3,3,2,3] ?_;refine O1 fun L=>?_;refine nB 57 2 501 5 55 ?_;refine nB 57 4 502 1 3 ?_;refine nB 57 5 503 1 3 ?_;refine LR e0 hn (a0,F,([]:List Ins),F.a8,([]:List Int),([]:List Int),false) (fun l k v=>k6 N a3 F l k v.1 v.2.1 v.2.2.1 v.2.2.2.1 v.2.2.2.2.1 v.2.2.2.2.2.1 v.2.2.2.2.2.2) h (fun o v=>[(12,.bool v.2.2.2.2.2.2),(63,.int (o:Int))]) (fun o v=>[(57,.box [.fp (Q7 v.1),.fp (J2 v.2.1),.aL 501,.int v.2.2.2.1,.aL 502,.aL 503] 260),(501,cU v.2.2.1),(502,w3 v.2.2.2.2.1),(503,w3 v.2.2.2.2.2.1)]) [1,3,4,8,10,11,61,62] [8] [] (fun s=>[(12,.bool s.2.2.2.2.2.2)]) (fun s=>[(57,.box [.fp (Q7 s.1),.fp (J2 s.2.1),.aL 501,.int s.2.2.2.1,.aL 502,.aL 503] 260),(501,cU s.2.2.1),(502,w3 s.2.2.2.2.1),(503,w3 s.2.2.2.2.2.1)]) [1,4,8,10,11] [8] ?_ ?_ ?_
 ·rintro _ g o ⟨v17,v18,E,v20,v21,v22,v23⟩ h _;rw[k6] at h;exact Sj [3,2,4,0,20]
 ·rintro _ g o ⟨v17,v18,E,v20,v21,v22,v23⟩ x42 rest39 h _ p _;rw[k6] at h;refine S [3,2,4,0,1,2] ?_;refine J e0 hn h (fun s=>[(12,.bool s.2.2.2.2.2.2)]) (fun s=>[(57,.box [.fp (Q7 s.1),.fp (J2 s.2.1),.aL 203,.int s.2.2.2.1,.aL 505,.aL 188] 260),(188,w3 s.2.2.2.2.2.1),(203,cU s.2.2.1),(505,w3 s.2.2.2.2.1)]) [1,3,4,8,10,11,61,62,63] [8] (fun _ h g=>?_) ?_
  ·refine S [6,3] ?_;refine W9 p ?_;refine S [2,8,13] ?_;refine bS fN [(E.length:Int)] ?_;refine A [] fun G h=>?_;refine aM G ?_;refine S [2,2] ?_;refine Jb 97 hn h [1,3,4,8,10,11,12,13,14,61,62,63] [8,14,57,79,501,503] (fun _ h g=>?_) ?_
   ·refine kd [1,3,4,8,10,11,12,13,14,61,62,63] [8,14,57,79,501,503] ?_;refine I [5] ?_ ?_<;>intro _ h
    ·refine I [0,13,0] ?_ ?_<;>intro _ h
     ·refine B [0] fun _ U h=>?_;refine H5 U ?_;exact Sj [0]
     exact Sj [0]
    exact Sj [0]
   intro v55 h;refine I [4] ?_ ?_<;>intro _ h
   ·refine B [2,8] fun _ V h=>?_;refine H5 V ?_;refine B [] fun r65 M h=>?_;refine cA ((Eo M).ay [(1000,57),(1001,501),(1002,79),(1003,503),(2,504),(3,505),(4,506)] rfl) ?_;rcases r65 with⟨_|x68,d⟩
    ·refine S [2] ?_;refine kd [1,3,4,8,10,11,12,13,14,15,61,62,63] [8,14,57,504,505,506] ?_;refine S [8,4,1,2,2] ?_;refine Jb 176 hn h [1,3,4,8,10,11,12,13,14,61,62,63] [8,14,57,504,505,506] (fun _ h g=>?_) ?_
     ·refine kd [1,3,4,8,10,11,12,13,14,61,62,63] [8,14,57,504,505,506] ?_;refine I [5] ?_ ?_<;>intro _ h
      ·exact Sj [0]
      exact Sj [0]
     intro v69 h;refine J e0 hn h (fun s=>[]) (fun s=>[(57,.box [.fp (Q7 d.w),.fp (J2 d.m),.aL 504,.int d.a8,.aL 505,.aL 188] 260),(188,w3 s)]) [1,3,4,8,10,11,12,13,14,61,62,63] [8,14,504,505] (fun _ h g=>?_) ?_
     ·refine I [4] ?_ ?_<;>intro _ h
      ·refine S [8,13] ?_;refine bS fN [(d.out.length:Int)] ?_;refine A [] fun H h=>?_;refine aM H ?_;exact je
      exact Sj [1] [(188,506)]
     intro v72 h;refine S [2,3] ?_;refine J e0 hn h (fun s=>[]) (fun s=>[(14,.box (bc s) 55)]) [1,3,4,8,10,11,12,14,61,62,63] [8,57,188,504,505] (fun _ h g=>?_) ?_
     ·refine I [4] ?_ ?_<;>intro _ h
      ·exact Sj [5]
      exact Sj [1]
     intro v77 h;refine S [8] ?_;refine bS bc [v77] ?_;refine A [] fun K h=>?_;refine aM K ?_;exact je
    refine S [2] ?_;refine Jb 159 hn h [1,3,4,8,10,11,12,13,14,15,61,62,63] [8,14,57,504,505,506] (fun _ h g=>?_) ?_
    ·refine kd [1,3,4,8,10,11,12,13,14,15,61,62,63] [8,14,57,504,505,506] ?_;refine B [8] fun _ O h=>?_;refine cA (Ar O) ?_;refine I [] ?_ ?_<;>intro _ h
     ·refine I [0] ?_ ?_<;>intro _ h
      ·refine B [0,13,0] fun _ P h=>?_;refine cA (FU P) ?_;refine I [0,12,0,13,0,12,0,12,0] ?_ ?_<;>intro _ h
       ·exact Sj [0,12,0,12,0,12,0]
       exact Sj [0]
      exact Sj [0]
     exact Sj [0]
    intro v81 h;refine I [4] ?_ ?_<;>intro _ h
    ·refine B [2,8] fun _ W h=>?_;refine H5 W ?_;refine B [] fun _ Q h=>?_;refine cA ((Fb Q).ay [(1000,57),(1001,504),(1002,505),(1003,506),(2,507),(3,508),(4,509)] rfl) ?_;refine kd [1,3,4,8,10,11,61,62,63] [8,57,507,508,509] ?_;exact Sj [3,20] [(203,507),(505,508),(188,509)]
    refine S [1,2,2] ?_;refine Jb 176 hn h [1,3,4,8,10,11,12,13,14,61,62,63] [8,14,57,504,505,506] (fun _ h g=>?_) ?_
    ·refine I [5] ?_ ?_<;>intro _ h
     ·exact Sj [0]
     exact Sj [0]
    intro v97 h;refine J e0 hn h (fun s=>[]) (fun s=>[(57,.box [.fp (Q7 d.w),.fp (J2 d.m),.aL 504,.int d.a8,.aL 505,.aL 188] 260),(188,w3 s)]) [1,3,4,8,10,11,12,13,14,61,62,63] [8,14,504,505] (fun _ h g=>?_) ?_
    ·refine I [4] ?_ ?_<;>intro _ h
     ·refine S [8,13] ?_;refine bS fN [(d.out.length:Int)] ?_;refine A [] fun u h=>?_;refine aM u ?_;exact je
     exact Sj [1] [(188,506)]
    intro v100 h;refine S [2,3] ?_;refine J e0 hn h (fun s=>[]) (fun s=>[(14,.box (bc s) 55)]) [1,3,4,8,10,11,12,14,61,62,63] [8,57,188,504,505] (fun _ h g=>?_) ?_
    ·refine I [4] ?_ ?_<;>intro _ h
     ·exact Sj [5]
     exact Sj [1]
    intro Y h;refine S [8] ?_;refine bS bc [Y] ?_;refine A [] fun x h=>?_;refine aM x ?_;exact je
   refine S [1,2,2] ?_;refine Jb 176 hn h [1,3,4,8,10,11,12,13,14,61,62,63] [8,14,57,79,501,503] (fun _ h g=>?_) ?_
   ·refine I [5] ?_ ?_<;>intro _ h
    ·exact Sj [0]
    exact Sj [0]
   intro v109 h;refine J e0 hn h (fun s=>[]) (fun s=>[(57,.box [.fp (Q7 v17),.fp (J2 v18),.aL 501,.int v20,.aL 79,.aL 188] 260),(188,w3 s)]) [1,3,4,8,10,11,12,13,14,61,62,63] [8,14,79,501] (fun _ h g=>?_) ?_
   ·refine I [4] ?_ ?_<;>intro _ h
    ·refine S [8,13] ?_;refine bS fN [(E.length:Int)] ?_;refine A [] fun y h=>?_;refine aM y ?_;exact je
    exact Sj [1] [(188,503)]
   intro v112 h;refine S [2,3] ?_;refine J e0 hn h (fun s=>[]) (fun s=>[(14,.box (bc s) 55)]) [1,3,4,8,10,11,12,14,61,62,63] [8,57,79,188,501] (fun _ h g=>?_) ?_
   ·refine I [4] ?_ ?_<;>intro _ h
    ·exact Sj [5]
    exact Sj [1]
   intro Z h;refine S [8] ?_;refine bS bc [Z] ?_;refine A [] fun z h=>?_;refine aM z ?_;exact je [(505,79)]
  rintro⟨v45,v46,v47,v48,v49,v50,v51⟩ h;refine S [5] ?_;refine MA (AN (U9 p L) ?_);exact le (v45,v46,v47,v48,v49,v50,v51) [(501,203),(502,505),(503,188)]
 rintro⟨v31,v32,v33,v34,v35,v36,v37⟩ h;refine I [2,3,4] ?_ ?_<;>intro _ h
 ·exact Sr [3,7]
 refine S [1,2,3] ?_;refine O1 fun C=>?_;refine LR e0 hn v33 (fun l k v=>k7 N v35 v36 l k v) h (fun e v=>[(215,.int (e:Int))]) (fun e v=>[(501,cU v)]) [1,4,8,10,11,213,214] [8,57,502,503] [] (fun s=>[]) (fun s=>[(501,cU s)]) [1,4,8,10,11] [8,57,502,503] ?_ ?_ ?_
 ·intro _ g e q h _;rw[k7] at h;exact Sj [3,2,4,0,20]
 ·intro _ g e q x131 X h _ D _;rw[k7] at h;refine B [3,2,4,0,1,2,6,3] fun x134 f h=>?_;refine X8 f ?_;refine K6 (l6 f).2 ?_;refine kd [1,4,8,10,11,17,213,214,215] [8,57,501,502,503] ?_;refine B [8] fun _ i h=>?_;refine X8 i ?_;refine K6 (l6 i).2 ?_;refine B [] fun t j h=>?_;refine X8 j ?_;refine K6 (l6 j).2 ?_;refine B [] fun a n h=>?_;refine X8 n ?_;refine sM (l6 n).2 (⟨a.op,t,a.b,a.c,a.name⟩:Ins) ?_;refine kd [1,4,8,10,11,213,214,215] [8,57,501,502,503] ?_;refine S [5] ?_;refine MA (AN (U9 D C) ?_);exact le (q.set x134.toNat (⟨a.op,t,a.b,a.c,a.name⟩:Ins)) []
 intro v126 h;refine S [2] ?_;refine kd [1,4,8,10,11] [8,57,501,502,503] ?_;refine S [8] ?_;refine j6.ax 501 rfl ?_;exact Sr [7]
def HY {N a0 a1 r} (h:rX N a0 a1=some r):Spec prog 102 [] [.agg (Q7 a0),jA a1] (.aL 0) [(0,oA r)] [0]:=by
 refine so func102 ntmps102 fun D hn=>?_;unfold rX at h;refine S [3,3,2,3] ?_;refine O1 fun n=>?_;refine nR 5 205 5 213 ?_;refine LR e0 hn ([]:List Fs) (fun l k v=>lQ N a0 a1 l k v) h (fun j v=>[(13,.int (j:Int))]) (fun j v=>[(205,oA v)]) [1,2,5,12] [2] [] (fun s=>[]) (fun s=>[(205,oA s)]) [5] [] ?_ ?_ ?_
 ·intro _ g j w h _;rw[lQ] at h;exact Sj [3,2,4,0,20]
 ·intro _ g j w y p h _ b _;rw[lQ] at h;refine S [3,2,4,0,1,2,6,3,3] ?_;refine W9 b ?_;refine O1 fun d=>?_;refine LR e0 hn w (fun l k v=>lS N a0 a1 j l k v) h (fun a v=>[(23,.int (a:Int))]) (fun a v=>[(205,oA v)]) [1,2,5,6,12,13,22] [2] [] (fun s=>[]) (fun s=>[(205,oA s)]) [1,2,5,12,13] [2] ?_ ?_ ?_
  ·intro _ g a q h _;rw[lS] at h;exact Sj [3,2,4,0,20]
  ·intro _ g a q z m h _ i _;rw[lS] at h;refine S [3,2,4,0,1,2] ?_;refine J e0 hn h (fun s=>[(5,.aL 42)]) (fun s=>[(42,oA s)]) [1,2,6,12,13,22,23] [2] (fun _ h g=>?_) ?_
   ·refine B [6,3,2,8] fun _ e h=>?_;refine cA ((FJ e).sw 0 34) ?_;refine B [] fun o f h=>?_;refine cF (G1 f) ?_;refine kd [1,2,5,6,8,9,12,13,22,23] [2,8,205] ?_;refine S [3] ?_;refine J e0 hn h (fun s=>[(5,.aL 42)]) (fun s=>[(42,oA s)]) [1,2,6,12,13,22,23] [2] (fun _ h g=>?_) ?_
    ·refine I [4] ?_ ?_<;>intro _ h
     ·refine S [5] ?_;refine bS ed [o.1] ?_;refine A [] fun c h=>?_;refine aM c ?_;exact je
     exact Sj [1] [(42,205)]
    intro x h;exact je
   intro u h;refine S [5] ?_;refine MA (AN (U9 i d) ?_);exact le u [(205,42)]
  intro t h;refine S [5] ?_;refine MA (AN (U9 b n) ?_);exact le t []
 intro C h;exact Sr [3,7] [(0,205)]
def Fm {N a0 a1 r} (h:rL N a0 a1=some r):Spec prog 26 [] [.agg (Q7 a0),.agg (Q7 a1)] (.bool r) [] []:=by
 refine so func26 ntmps26 fun Q hn=>?_;unfold rL at h;refine S [3,2,2] ?_;refine Jb 36 hn h [2,3] [2,3] (fun _ h g=>?_) ?_
 ·refine I [5] ?_ ?_<;>intro _ h
  ·exact Sj [0]
  refine I [0,13,0,13,0] ?_ ?_<;>intro _ h
  ·exact Sj [0]
  exact Sj [0,13,0,13,0]
 intro P h;refine I [4] ?_ ?_<;>intro _ h
 ·exact Sr [3,7]
 refine S [1,2,3] ?_;refine O1 fun m=>?_;refine LR e1 hn () (fun l k v=>mZ N a1 l k) h (fun b v=>[(40,.int (b:Int))]) (fun b v=>[]) [2,3,38,39] [2,3] [] (fun s=>[]) (fun s=>[]) [2,3] [2,3] ?_ ?_ ?_
 ·intro _ g b _ h _;rw[mZ] at h;exact Sj [3,2,4,0,20]
 ·intro _ g b _ K A h _ e _;rw[mZ] at h;refine S [3,2,4,0,1,2,6,3] ?_;refine W9 e ?_;refine B [3] fun F t h=>?_;refine H5 t ?_;refine S [2,2] ?_;refine Jb 77 hn h [2,3,6,7,38,39,40] [2,3,6,7] (fun _ h g=>?_) ?_
  ·refine kd [2,3,6,7,38,39,40] [2,3,6,7] ?_;refine I [5] ?_ ?_<;>intro _ h
   ·exact Sj [0]
   refine I [0] ?_ ?_<;>intro _ h
   ·exact Sj [0]
   refine I [0] ?_ ?_<;>intro _ h
   ·exact Sj [0]
   exact Sj [0,13,0,13,0]
  intro G h;refine I [4] ?_ ?_<;>intro _ h
  ·exact Sr [3,7]
  refine S [1,3] ?_;refine O1 fun n=>?_;refine LR e1 hn () (fun l k v=>mW N F l k) h (fun c v=>[(81,.int (c:Int))]) (fun c v=>[]) [2,3,7,38,39,40,79,80] [2,3,7] [] (fun s=>[]) (fun s=>[]) [2,3,38,39,40] [2,3] ?_ ?_ ?_
  ·intro _ g c _ h _;rw[mW] at h;exact Sj [3,2,4,0,20]
  ·intro _ g c _ L C h _ f _;rw[mW] at h;refine S [3,2,4,0,1,2,6,3] ?_;refine W9 f ?_;refine B [3] fun _ u h=>?_;refine H5 u ?_;refine S [2] ?_;refine Jb 124 hn h [2,3,7,38,39,40,79,80,81] [2,3,7] (fun _ h g=>?_) ?_
   ·refine kd [2,3,7,9,10,38,39,40,79,80,81] [2,3,7,9,10] ?_;refine I [5] ?_ ?_<;>intro _ h
    ·exact Sj [0]
    refine I [0] ?_ ?_<;>intro _ h
    ·exact Sj [0]
    refine I [0] ?_ ?_<;>intro _ h
    ·exact Sj [0]
    refine I [0] ?_ ?_<;>intro _ h
    ·exact Sj [0]
    refine B [0] fun _ q h=>?_;refine cA (Fu q) ?_;exact Sj [0]
   intro H h;refine I [4] ?_ ?_<;>intro _ h
   ·exact Sr [3,7]
   refine S [1,5] ?_;refine MA (AN (U9 f n) ?_);exact le () []
  rintro⟨⟩ h;refine S [5] ?_;refine MA (AN (U9 e m) ?_);exact le () []
 rintro⟨⟩ h;refine S [2,3] ?_;refine O1 fun o=>?_;refine LR e1 hn () (fun l k v=>mY N a1 l k) h (fun a v=>[(130,.int (a:Int))]) (fun a v=>[]) [3,128,129] [3] [] (fun s=>[]) (fun s=>[]) [] [] ?_ ?_ ?_
 ·intro _ g a _ h _;rw[mY] at h;exact Sj [3,2,4,0,20]
 ·intro _ g a _ M D h _ i _;rw[mY] at h;refine S [3,2,4,0,1,2,6,3] ?_;refine W9 i ?_;refine S [2,2] ?_;refine Jb 156 hn h [3,11,12,128,129,130] [3,12] (fun _ h g=>?_) ?_
  ·refine kd [3,11,12,128,129,130] [3,12] ?_;refine B [8] fun _ w h=>?_;refine H5 w ?_;refine I [] ?_ ?_<;>intro _ h
   ·exact Sj [0]
   refine B [0,13,0] fun _ x h=>?_;refine H5 x ?_;exact Sj [0,13,0]
  intro J h;refine I [4] ?_ ?_<;>intro _ h
  ·exact Sr [3,7]
  refine S [1,3] ?_;refine O1 fun p=>?_;refine LR e1 hn () (fun l k v=>mX N a1 a l k) h (fun d v=>[(160,.int (d:Int))]) (fun d v=>[]) [3,11,12,128,129,130,159] [3,12] [] (fun s=>[]) (fun s=>[]) [3,128,129,130] [3] ?_ ?_ ?_
  ·intro _ g d _ h _;rw[mX] at h;exact Sj [3,2,4,0,20]
  ·intro _ g d _ O E h _ j _;rw[mX] at h;refine S [3,2,4,0,1,2,6,3,2,8] ?_;refine W9 j ?_;refine B [] fun _ y h=>?_;refine H5 y ?_;refine B [] fun _ z h=>?_;refine H5 z ?_;refine I [4] ?_ ?_<;>intro _ h
   ·refine kd [] [] ?_;exact Sr [3,7]
   refine S [1] ?_;refine kd [3,11,12,128,129,130,159,160] [3,12] ?_;refine S [5] ?_;refine MA (AN (U9 j p) ?_);exact le () []
  rintro⟨⟩ h;refine S [5] ?_;refine MA (AN (U9 i o) ?_);exact le () []
 rintro⟨⟩ h;exact Sr [3,7]
end
end Go.Proofs.YtibjcppjfkamhaaGreatDoor
