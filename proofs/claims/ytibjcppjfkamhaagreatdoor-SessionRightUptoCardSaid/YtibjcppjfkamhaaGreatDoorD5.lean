import Derived.Test.YtibjcppjfkamhaaGreatDoorD1
import Derived.Test.YtibjcppjfkamhaaGreatDoorD2
import Derived.Test.YtibjcppjfkamhaaGreatDoorD3
set_option linter.unusedVariables false
set_option linter.defProp false
set_option linter.unusedSimpArgs false
namespace Go.Proofs.YtibjcppjfkamhaaGreatDoor
open Go.RowKit Go.Proofs.Tryz
open _root_.And renaming intro->AN
open _root_.Bool renaming and_eq_true->IT
open _root_.ByteArray renaming empty->BY
open _root_.List renaming getElem?_eq_some_iff->ME,replicate->MI,map->MJ,mem_of_getElem?->MP,all_eq_true->MR,length_map->MW,getElem?_set->MY,getElem?_append_right->Ma,length_take->Mq
open _root_.Nat renaming ble->IN,le_refl->It,le_of_ble_eq_true->MZ,mul_le_mul_right->Mt
open _root_.Or renaming inl->MF
section
set_option maxHeartbeats 40000000
set_option maxRecDepth 100000
def Gd (N:Nat) (l:List Ce) (s:Fit l.length 72) (i:∀t∈l,Fit t.lines.length 16):Spec prog 61 [] [.sl 6 (l.map hC)] (.cI 0) [(0,.nest 6 159 2 167 (l.map dB))] [0]:=by
  refine Spec.of eg func61 rfl ntmps61 C8 rfl rfl rfl fun u hn=>?_;(repeat (first|refine H6 hn ?_|refine M4 hn ?_|refine O1 hn ?_|refine M3 hn ?_|refine M0 hn ?_|refine K7 hn ?_|refine ao hn ?_));refine J2 (fun c=>?_);(repeat (first|refine H6 hn ?_|refine M4 hn ?_|refine O1 hn ?_|refine M3 hn ?_|refine M0 hn ?_|refine K7 hn ?_|refine ao hn ?_));refine j6.bG 3 3 6 159 rfl rfl rfl ?_;refine j6.gh (Gh.mP 100 2 167 rfl rfl) (fun _=>?_);refine j6.loop (ι:={p:Nat×List (Hd×List AV×List (List AV)) // p.1<=l.length/\p.2.map (·.2)=(l.take p.1).map dB}) (fun p=>[(6,.sl 6 (l.map hC)),(7,.int l.length),(8,.int p.1.1),(3,.aK 3)])
    (fun p=>[(3,.row 6 (q8 p.1.2) 159),(100,.pins 2 (Z0 p.1.2) 167)]) (fun p=>l.length-p.1.1) ⟨(0,[]),d9,rfl⟩ [] ?_ ?_ ?_
  · exact⟨⟨rfl,rfl,rfl,rfl,trivial⟩,⟨rfl,rfl,trivial⟩,rfl,rfl⟩
  · intro k;rw[hn];rfl
  rintro⟨⟨k,z⟩,o,b⟩;have o:k<=l.length:=o;have b:z.map (·.2)=(l.take k).map dB:=b;(repeat (first|refine H6 hn ?_|refine M4 hn ?_|refine O1 hn ?_|refine M3 hn ?_|refine M0 hn ?_|refine K7 hn ?_|refine ao hn ?_));refine im (fun a=>?_) (fun j=>?_)
  · have a:k<l.length:=by have:(k:Int)<(l.length:Int):=a;omega
    (repeat (first|refine H6 hn ?_|refine M4 hn ?_|refine O1 hn ?_|refine M3 hn ?_|refine M0 hn ?_|refine K7 hn ?_|refine ao hn ?_));refine AN d9 (AN (by simpa using a) ?_);intro w f r;obtain⟨x,d,rfl⟩:=EM f;have d:l[k]?=some x:=d;(repeat (first|refine H6 hn ?_|refine M4 hn ?_|refine O1 hn ?_|refine M3 hn ?_|refine M0 hn ?_|refine K7 hn ?_|refine ao hn ?_));show L9 _ _ _ _ _;refine L9.a_ ((uF N x.lines x.lines (d21 N (i x (MP d)))).sw 0 14) (by first|exact kF rfl|((repeat (refine AN rfl ?_));exact trivial)) (by(repeat (refine AN rfl ?_));exact trivial) rfl ?_;refine j6.gh (Gh.tq 5 5 14 100 rfl rfl rfl rfl rfl rfl rfl) (fun h=>?_);(repeat (first|refine H6 hn ?_|refine M4 hn ?_|refine O1 hn ?_|refine M3 hn ?_|refine M0 hn ?_|refine K7 hn ?_|refine ao hn ?_));refine Exists.intro [Q6 x++[.aU h.v]] (AN aT ?_);have n:(q8 z).length=k:=by
      have:=jd b;rw[Mq] at this;simp only[q8,MW];omega
    refine AN ?_ (Exists.intro (q8 (z++[(h,dB x)])) (AN (by rw[uN];exact O4 _) ?_))
    · show((q8 z).length+1)*72<=_;rw[n];exact Nat.le_trans (Mt 72 a) s
    (repeat (first|refine H6 hn ?_|refine M4 hn ?_|refine O1 hn ?_|refine M3 hn ?_|refine M0 hn ?_|refine K7 hn ?_|refine ao hn ?_));refine MF (AN (xf a c) ?_);have m:(z++[(h,dB x)]).map (·.2)=(l.take (k+1)).map dB:=by
      rw[xK d,List.map_append,List.map_append,show z.map (·.2)=(l.take k).map dB from b];rfl
    refine⟨⟨(k+1,z++[(h,dB x)]),a,m⟩,[(3,19)],by show l.length-(k+1)<l.length-k;omega,⟨⟨rfl,rfl,rfl,rfl,trivial⟩,⟨rfl,?_,trivial⟩,rfl,rfl⟩⟩
    · exact congrArg (fun q=>some (Obj.pins 2 q 167)) (vG z (h,dB x)).symm
  · have e:k=l.length:=by have:¬(k:Int)<(l.length:Int):=j;omega
    subst e;have b:z.map (·.2)=l.map dB:=by
      have:z.map (·.2)=(l.take l.length).map dB:=b;rwa [List.take_length] at this
    refine M0 hn ?_;show j6 prog u _ _ _ _;refine j6.gh (Gh.close 3 3 100 101 z rfl rfl rfl rfl rfl b rfl rfl rfl rfl rfl) ?_;intro _;(repeat (first|refine H6 hn ?_|refine M4 hn ?_|refine O1 hn ?_|refine M3 hn ?_|refine M0 hn ?_|refine K7 hn ?_|refine ao hn ?_));exact⟨[(0,101)],_,rfl,rfl,⟨rfl,trivial⟩,rfl,rfl,rfl,rfl,rfl⟩
def HJ (N:Nat) (l:List Ce) (s:St) (e:Int) (c:Int) (f:Int) (r:List Ce) (h:sI N l s e c f=some r):Spec prog 169 [] [.sl 6 (l.map hC),.agg (bU s),.int e,.int c,.int f] (.aK 0) [(0,.row 6 (r.map hC) 159)] [0]:=by
  unfold sI at h;obtain⟨R,h⟩:=j7 h;obtain rfl:=oI h;rw[IT,MR] at R;have hf:Fit (l.length+1) 72:=MZ R.1;have M:∀t∈l,Fit (t.lines.length+1) 16:=fun t ht=>MZ (R.2 t ht);clear h R;refine Spec.of eg func169 rfl ntmps169 C8 rfl rfl rfl fun D hn=>?_;refine H6 hn ?_;show j6 prog D _ _ _ _;refine j6.gh (Gh.bA 6 6 rfl rfl rfl) ?_;intro _;show j6 prog D _ _ _ _;refine j6.gh (Gh.bA 8 8 rfl rfl rfl) ?_;intro _;(repeat (first|refine H6 hn ?_|refine M4 hn ?_|refine O1 hn ?_|refine M3 hn ?_|refine M0 hn ?_|refine K7 hn ?_|refine ao hn ?_));show L9 _ _ _ _ _;refine L9.a_ ((Gd N l (Nat.le_trans (Mt _ (Nat.le_succ _)) hf) (fun t ht=>Nat.le_trans (Mt _ (Nat.le_succ _)) (M t ht))).sw 0 15) (by first|exact kF rfl|((repeat (refine AN rfl ?_));exact trivial)) (by(repeat (refine AN rfl ?_));exact trivial) rfl ?_;(repeat (first|refine H6 hn ?_|refine M4 hn ?_|refine O1 hn ?_|refine M3 hn ?_|refine M0 hn ?_|refine K7 hn ?_|refine ao hn ?_));show L9 _ _ _ _ _;refine L9.hU (zm (Gc N l s)) ?_ rfl ?_
  · show dU [.sl 6 (du 2 (l.map dB)),.agg (bU s)] _;rw[CS];exact kF rfl
  show j6 prog D _ _ _ _;refine j6.gh (Gh.open 11 15 102 103 rfl rfl rfl rfl rfl rfl (fun _=>rfl)) ?_;rintro⟨z,G⟩;refine j6.cut (ι:={ q:Nat×Ce×Hd×List (Hd×List AV×List (List AV)) // q.2.2.2[q.1]?=some (q.2.2.1,dB q.2.1)/\q.2.2.2.map (·.2)=(bb (fun t:Ce=>decide (t.site=s)) ⟨s,e,false,[]⟩ l).1.map dB/\(bb (fun t:Ce=>decide (t.site=s)) ⟨s,e,false,[]⟩ l).1[q.1]?=some q.2.1/\(bb (fun t:Ce=>decide (t.site=s)) ⟨s,e,false,[]⟩ l).2=q.1/\Fit (q.2.1.lines.length+1) 16/\q.2.1.site=s })
    (fun q=>[(11,.aK 102),(12,.int q.1.1),(2,.int e),(4,.int f),(6,.fp (bU s)),(8,.fp [.int c])]) (fun q=>[(102,.row 6 (q8 q.1.2.2.2) 159),(103,.pins 2 ((Z0 q.1.2.2.2).eraseIdx q.1.1) 167),(104,.row 2 (q.1.2.1.lines.map V7) 167),(105,.eqv 104 q.1.2.2.1.v)]) ?_ ?_ ?_
  · (repeat (first|refine H6 hn ?_|refine M4 hn ?_|refine O1 hn ?_|refine M3 hn ?_|refine M0 hn ?_|refine K7 hn ?_|refine ao hn ?_));rcases vX (fun t:Ce=>decide (t.site=s)) l with⟨k,x,e1,H,e3,e4⟩|⟨e1,H⟩
    · refine im (fun B=>?_) (fun A=>?_)
      · rw[e1] at B;omega
      · obtain⟨h,P⟩:=Dk G H;have X:(Z0 z).Perm ((h,x.lines.map V7)::(Z0 z).eraseIdx k):=by
          have hk:(Z0 z)[k]?=some (h,x.lines.map V7):=(by simp[Z0,P,dB]);obtain⟨hl,hv⟩:=ME.1 hk;rw[<-hv];exact(List.ae hl).symm
        show j6 prog D _ _ _ _;refine j6.gh (Gh.mR 103 104 105 rfl X rfl rfl rfl rfl rfl) ?_;intro _;refine K7 hn ?_;have ex:bb (fun t:Ce=>decide (t.site=s)) ⟨s,e,false,[]⟩ l=(l,k):=by unfold bb;rw[e4]
        refine⟨⟨(k,x,h,z),P,by rw[ex];exact G,by rw[ex];exact H,by rw[ex],M x (MP H),of_decide_eq_true e3⟩,[],⟨⟨rfl,congrArg AV.int e1,rfl,rfl,rfl,rfl,trivial⟩,⟨rfl,rfl,rfl,rfl,trivial⟩,rfl,rfl⟩⟩
    · refine im (fun B=>?_) (fun A=>?_)
      · (repeat (first|refine H6 hn ?_|refine M4 hn ?_|refine O1 hn ?_|refine M3 hn ?_|refine M0 hn ?_|refine K7 hn ?_|refine ao hn ?_));rintro _ rfl hlen;refine j6.ops (jv hn 7 ?_);refine Exists.intro [[.int s.cls,.str s.name,.int s.pos,.int e,.bool false,.aJ]] (AN aT ?_);refine AN ?_ (Exists.intro (q8 z++[[AV.int s.cls,.str s.name,.int s.pos,.int e,.bool false,.aJ]]) (AN (O4 _) ?_))
        · show((q8 z).length+1)*72<=_;rw[show(q8 z).length=l.length by simp only[q8,MW];exact jd G];exact hf
        have ad:(q8 z++[[AV.int s.cls,.str s.name,.int s.pos,.int e,.bool false,.aJ]])[l.length]?=some [AV.int s.cls,.str s.name,.int s.pos,.int e,.bool false,.aJ]:=by
          rw[Ma (by simp[q8,jd G])];simp[q8,jd G]
        show cY prog D _ _ _ _ _;refine cY.gh (Gh.e8 (r:=28) (i:=l.length) (off:=5) (j:=104) (j':=105) (isz:=2) (ie:=167) rfl ad rfl rfl rfl rfl rfl rfl) ?_;intro _;refine cY.done ?_;have ex:bb (fun t:Ce=>decide (t.site=s)) ⟨s,e,false,[]⟩ l=(l++[⟨s,e,false,[]⟩],l.length):=by unfold bb;rw[H]
        have o:=jd G;refine⟨⟨(l.length,⟨s,e,false,[]⟩,⟨none,0,0⟩,z++[(⟨none,0,0⟩,dB ⟨s,e,false,[]⟩)]),?_,?_,?_,?_,?_,rfl⟩,[(102,28)],⟨⟨rfl,?_,rfl,rfl,rfl,rfl,trivial⟩,⟨?_,?_,rfl,rfl,trivial⟩,rfl,rfl⟩⟩
        · show(z++[_])[l.length]?=_;rw[Ma d9];simp[o]
        · rw[ex];show MJ (fun p:Hd×List AV×List (List AV)=>p.2) (z++[_])=MJ dB (l++[_]);rw[List.map_append,List.map_append,G];rfl
        · rw[ex];show(l++[_])[l.length]?=_;rw[Ma (It _)];simp
        · rw[ex]
        · show(0+1)*16<=_;decide
        · exact congrArg AV.int (by simp[q8,o])
        · refine congrArg (fun q=>some (Obj.row 6 q 159)) ?_;show(q8 z++[_]).set l.length _=q8 (z++[_]);rw[uN,List.set_append_right _ _ (by simp[q8,o])];simp[q8,o,dB,Q6]
        · refine congrArg (fun q=>some (Obj.pins 2 q 167)) ?_;show Z0 z=(Z0 (z++[_])).eraseIdx l.length;rw[vG,List.eraseIdx_append_of_length_le (by simp[Z0,o])];simp[Z0,o]
      · rw[e1] at A;omega
  · intro k;rw[hn];rfl
  rintro⟨⟨k,x,h,z⟩,w,Y,Z,hq4,hq5,F⟩;have w:z[k]?=some (h,dB x):=w;have F:x.site=s:=F;have b:k<(q8 z).length:=by
    have:=(ME.1 w).1;simpa[q8] using this
  have ad:(q8 z)[k]?=some (Q6 x++[.aU h.v]):=by simp[q8,w,dB]
  (repeat (first|refine H6 hn ?_|refine M4 hn ?_|refine O1 hn ?_|refine M3 hn ?_|refine M0 hn ?_|refine K7 hn ?_|refine ao hn ?_));refine AN d9 (AN (by simpa using b) ?_);refine AN (by simpa using b) (fun d a=>?_);have a:(q8 z)[k]?=some d:=a;obtain rfl:d=Q6 x++[.aU h.v]:=oI (a.symm.trans ad);show j6 prog D _ _ _ _;refine j6.gQ (ι:={ q:Ce×Hd // q.1=fb e x/\Fit (q.1.lines.length+1) 16 })
    (fun q=>[(11,.aK 102),(12,.int k),(4,.int f),(8,.fp [.int c])]) (fun q=>[(102,.row 6 ((q8 z).set k (Q6 q.1.1++[.aU q.1.2.v])) 159),(103,.pins 2 ((Z0 z).eraseIdx k) 167),(104,.row 2 (q.1.1.lines.map V7) 167),(105,.eqv 104 q.1.2.v)]) (fun Q2 Q q2x q2r=>?_) (by intro k;rw[hn];rfl) ?_
  · (repeat (first|refine H6 hn ?_|refine M4 hn ?_|refine O1 hn ?_|refine M3 hn ?_|refine M0 hn ?_|refine K7 hn ?_|refine ao hn ?_));refine nq (fun T=>?_) (fun T=>?_)
    · have W:¬x.aC=e:=by simpa using T
      have n:fb e x=⟨x.site,e,false,[]⟩:=N1 W;refine M4 hn ?_;refine AN d9 (AN (by simpa using b) ?_);refine AN (by simpa using b) (fun d a=>?_);have a:(q8 z)[k]?=some d:=a;obtain rfl:d=Q6 x++[.aU h.v]:=oI (a.symm.trans ad);refine Exists.intro ((q8 z).set k [.int s.cls,.str s.name,.int s.pos,.int e,.bool false,.aJ]) (AN (O4 _) ?_);have J:((q8 z).set k [AV.int s.cls,.str s.name,.int s.pos,.int e,.bool false,.aJ])[k]?=some [AV.int s.cls,.str s.name,.int s.pos,.int e,.bool false,.aJ]:=by rw[MY,N2 rfl,N2 b]
      refine Q _ _ ?_;refine X6.gh (Gh.e8 (r:=102) (i:=k) (off:=5) (j:=106) (j':=107) (isz:=2) (ie:=167) rfl J rfl rfl rfl rfl rfl rfl) (fun _=>?_);refine X6.done ?_;refine⟨⟨(fb e x,⟨none,0,0⟩),rfl,by show Fit ((fb e x).lines.length+1) 16;rw[n];show(0+1)*16<=_;decide⟩,[(104,106),(105,107)],trivial,⟨⟨rfl,rfl,rfl,rfl,trivial⟩,⟨?_,rfl,?_,rfl,trivial⟩,rfl,rfl⟩⟩
      · refine congrArg (fun q=>some (Obj.row 6 q 159)) ?_;show((q8 z).set k [AV.int s.cls,.str s.name,.int s.pos,.int e,.bool false,.aJ]).set k [AV.int s.cls,.str s.name,.int s.pos,.int e,.bool false,.aU (⟨none,0,0⟩:Hd).v]=(q8 z).set k (Q6 (fb e x)++[.aU (⟨none,0,0⟩:Hd).v]);rw[List.set_set,n,<-F];rfl
      · refine congrArg (fun q=>some (Obj.row 2 q 167)) ?_;show[]=MJ V7 (fb e x).lines;rw[n];rfl
    · have he:x.aC=e:=by simpa using T
      have n:fb e x=x:=N2 he;refine K7 hn ?_;refine Q _ _ ?_;refine X6.done ?_;refine⟨⟨(fb e x,h),rfl,by show Fit ((fb e x).lines.length+1) 16;rw[n];exact hq5⟩,[],trivial,⟨⟨rfl,rfl,rfl,rfl,trivial⟩,⟨?_,rfl,?_,rfl,trivial⟩,rfl,rfl⟩⟩
      · refine congrArg (fun q=>some (Obj.row 6 q 159)) ?_;show q8 z=(q8 z).set k (Q6 (fb e x)++[.aU h.v]);rw[n];exact(xU ad).symm
      · refine congrArg (fun q=>some (Obj.row 2 q 167)) ?_;show MJ V7 x.lines=MJ V7 (fb e x).lines;rw[n]
  rintro⟨⟨y,g⟩,hy,E⟩;have hy:y=fb e x:=hy;have E:Fit (y.lines.length+1) 16:=E;have m:((q8 z).set k (Q6 y++[.aU g.v]))[k]?=some (Q6 y++[.aU g.v]):=by rw[MY,N2 rfl,N2 b]
  (repeat (first|refine H6 hn ?_|refine M4 hn ?_|refine O1 hn ?_|refine M3 hn ?_|refine M0 hn ?_|refine K7 hn ?_|refine ao hn ?_));refine AN d9 (AN (by simpa using b) ?_);show j6 prog D _ _ _ _;refine j6.oX fun Q4 q4n q4x q4r=>?_;refine j6.gQ (ι:=Hd) (fun q=>[(11,.aK 102),(12,.int k)]) (fun q=>[(102,.row 6 ((q8 z).set k (Q6 (Y3 c f y)++[.aU q.v])) 159),(103,.pins 2 ((Z0 z).eraseIdx k) 167),(104,.row 2 ((Y3 c f y).lines.map V7) 167),(105,.eqv 104 q.v)]) (fun Q3 C q3x q3r=>?_) (by intro k;rw[hn];rfl) ?_
  · (repeat (first|refine H6 hn ?_|refine M4 hn ?_|refine O1 hn ?_|refine M3 hn ?_|refine M0 hn ?_|refine K7 hn ?_|refine ao hn ?_));refine AN (by simpa using b) (fun d a=>?_);have a:((q8 z).set k (Q6 y++[.aU g.v]))[k]?=some d:=a;obtain rfl:d=Q6 y++[.aU g.v]:=oI (a.symm.trans m);refine nq (fun u=>?_) (fun u=>?_)
    · repeat (refine d13 u ?_)
      have hl:Y3 c f y=y:=N2 (MF u);(repeat (first|refine H6 hn ?_|refine M4 hn ?_|refine O1 hn ?_|refine M3 hn ?_|refine M0 hn ?_|refine K7 hn ?_|refine ao hn ?_));refine C _ _ ?_;refine X6.done ?_;refine⟨g,[],trivial,⟨⟨rfl,rfl,trivial⟩,⟨?_,rfl,?_,rfl,trivial⟩,rfl,rfl⟩⟩
      · refine congrArg (fun q=>some (Obj.row 6 q 159)) ?_;show(q8 z).set k (Q6 y++[.aU g.v])=(q8 z).set k (Q6 (Y3 c f y)++[.aU g.v]);rw[hl]
      · refine congrArg (fun q=>some (Obj.row 2 q 167)) ?_;show MJ V7 y.lines=MJ V7 (Y3 c f y).lines;rw[hl]
    · refine nu u ?_;refine nu u ?_;refine nu u ?_;refine AN (by simpa using b) (fun d a=>?_);have a:((q8 z).set k (Q6 y++[.aU g.v]))[k]?=some d:=a;obtain rfl:d=Q6 y++[.aU g.v]:=oI (a.symm.trans m);refine AN rfl ?_;refine nu u ?_;refine nu u ?_;show L9 _ _ _ _ _;refine L9.hU (Ec (Hu N c y.lines) (fun _ _ h=>FO h)) (kF rfl) rfl ?_;refine nu u ?_;(repeat (first|refine H6 hn ?_|refine M4 hn ?_|refine O1 hn ?_|refine M3 hn ?_|refine M0 hn ?_|refine K7 hn ?_|refine ao hn ?_));refine nq (fun U=>?_) (fun U=>?_)
      · have hl:Y3 c f y=y:=N2 (Or.inr (of_decide_eq_true U));(repeat (first|refine H6 hn ?_|refine M4 hn ?_|refine O1 hn ?_|refine M3 hn ?_|refine M0 hn ?_|refine K7 hn ?_|refine ao hn ?_));refine C _ _ ?_;refine X6.done ?_;refine⟨g,[],trivial,⟨⟨rfl,rfl,trivial⟩,⟨?_,rfl,?_,rfl,trivial⟩,rfl,rfl⟩⟩
        · refine congrArg (fun q=>some (Obj.row 6 q 159)) ?_;show(q8 z).set k (Q6 y++[.aU g.v])=(q8 z).set k (Q6 (Y3 c f y)++[.aU g.v]);rw[hl]
        · refine congrArg (fun q=>some (Obj.row 2 q 167)) ?_;show MJ V7 y.lines=MJ V7 (Y3 c f y).lines;rw[hl]
      · have O:¬(y.many=true\/0<=fk (fun t:Ln=>decide (t.cls=c)) y.lines):=by
          rintro(h|h)
          · rw[h] at u;cases u
          · exact absurd h (of_decide_eq_false U)
        (repeat (first|refine H6 hn ?_|refine M4 hn ?_|refine O1 hn ?_|refine M3 hn ?_|refine M0 hn ?_|refine K7 hn ?_|refine ao hn ?_));refine AN (by simpa using b) (fun d a=>?_);have a:((q8 z).set k (Q6 y++[.aU g.v]))[k]?=some d:=a;obtain rfl:d=Q6 y++[.aU g.v]:=oI (a.symm.trans m);refine AN rfl ?_;rintro _ rfl V;(repeat (first|refine H6 hn ?_|refine M4 hn ?_|refine O1 hn ?_|refine M3 hn ?_|refine M0 hn ?_|refine K7 hn ?_|refine ao hn ?_));refine im (fun B=>?_) (fun A=>?_)
        · have I:(3:Int)<=(y.lines.length:Int):=by simpa using B
          have hl:Y3 c f y=⟨y.site,y.aC,true,[]⟩:=by unfold Y3;rw[N1 O,N2 I]
          (repeat (first|refine H6 hn ?_|refine M4 hn ?_|refine O1 hn ?_|refine M3 hn ?_|refine M0 hn ?_|refine K7 hn ?_|refine ao hn ?_));refine AN (by simpa using b) (fun d a=>?_);have a:((q8 z).set k (Q6 y++[.aU g.v]))[k]?=some d:=a;obtain rfl:d=Q6 y++[.aU g.v]:=oI (a.symm.trans m);refine Exists.intro ((q8 z).set k [.int y.site.cls,.str y.site.name,.int y.site.pos,.int y.aC,.bool true,.aU g.v]) (AN (by show bt (((q8 z).set k (Q6 y++[.aU g.v])).set k [AV.int y.site.cls,.str y.site.name,.int y.site.pos,.int y.aC,.bool true,.aU g.v]) _;rw[List.set_set];exact O4 _) ?_);have K:((q8 z).set k [AV.int y.site.cls,.str y.site.name,.int y.site.pos,.int y.aC,.bool true,.aU g.v])[k]?=some [AV.int y.site.cls,.str y.site.name,.int y.site.pos,.int y.aC,.bool true,.aU g.v]:=by rw[MY,N2 rfl,N2 b]
          refine AN (by simpa using b) (fun d a=>?_);have a:((q8 z).set k [AV.int y.site.cls,.str y.site.name,.int y.site.pos,.int y.aC,.bool true,.aU g.v])[k]?=some d:=a;obtain rfl:d=[AV.int y.site.cls,.str y.site.name,.int y.site.pos,.int y.aC,.bool true,.aU g.v]:=oI (a.symm.trans K);refine Exists.intro ((q8 z).set k [.int y.site.cls,.str y.site.name,.int y.site.pos,.int y.aC,.bool true,.aJ]) (AN (by show bt (((q8 z).set k [AV.int y.site.cls,.str y.site.name,.int y.site.pos,.int y.aC,.bool true,.aU g.v]).set k [AV.int y.site.cls,.str y.site.name,.int y.site.pos,.int y.aC,.bool true,.aJ]) _;rw[List.set_set];exact O4 _) ?_);have L:((q8 z).set k [AV.int y.site.cls,.str y.site.name,.int y.site.pos,.int y.aC,.bool true,.aJ])[k]?=some [AV.int y.site.cls,.str y.site.name,.int y.site.pos,.int y.aC,.bool true,.aJ]:=by rw[MY,N2 rfl,N2 b]
          (repeat (first|refine H6 hn ?_|refine M4 hn ?_|refine O1 hn ?_|refine M3 hn ?_|refine M0 hn ?_|refine K7 hn ?_|refine ao hn ?_));refine C _ _ ?_;refine X6.gh (Gh.e8 (r:=102) (i:=k) (off:=5) (j:=106) (j':=107) (isz:=2) (ie:=167) rfl L rfl rfl rfl rfl rfl rfl) (fun _=>?_);refine X6.done ?_;refine⟨⟨none,0,0⟩,[(104,106),(105,107)],trivial,⟨⟨rfl,rfl,trivial⟩,⟨?_,rfl,?_,rfl,trivial⟩,rfl,rfl⟩⟩
          · refine congrArg (fun q=>some (Obj.row 6 q 159)) ?_;show((q8 z).set k [AV.int y.site.cls,.str y.site.name,.int y.site.pos,.int y.aC,.bool true,.aJ]).set k [AV.int y.site.cls,.str y.site.name,.int y.site.pos,.int y.aC,.bool true,.aU (⟨none,0,0⟩:Hd).v]=(q8 z).set k (Q6 (Y3 c f y)++[.aU (⟨none,0,0⟩:Hd).v]);rw[List.set_set,hl];rfl
          · refine congrArg (fun q=>some (Obj.row 2 q 167)) ?_;show[]=MJ V7 (Y3 c f y).lines;rw[hl];rfl
        · have I:¬(3:Int)<=(y.lines.length:Int):=by simpa using A
          have hl:Y3 c f y=⟨y.site,y.aC,y.many,y.lines++[⟨c,f⟩]⟩:=by unfold Y3;rw[N1 O,N1 I]
          refine tY hn C8 ?_;refine AN (by simpa using b) (fun d a=>?_);have a:((q8 z).set k (Q6 y++[.aU g.v]))[k]?=some d:=a;obtain rfl:d=Q6 y++[.aU g.v]:=oI (a.symm.trans m);refine AN rfl ?_;refine Exists.intro (MJ V7 [⟨c,f⟩]) (AN aT ?_);refine AN ?_ (Exists.intro (MJ V7 (y.lines++[⟨c,f⟩])) (AN (sV (O4 _)) ?_))
          · show((y.lines.map V7).length+1)*16<=_;rw[MW];exact E
          refine AN (by simpa using b) (AN ?_ ?_)
          · intro d a;have a:((q8 z).set k (Q6 y++[.aU g.v]))[k]?=some d:=a;obtain rfl:d=Q6 y++[.aU g.v]:=oI (a.symm.trans m);show 5<6;omega
          refine C _ _ ?_;refine X6.gh (Gh.bR 102 106 rfl rfl rfl (fun _=>rfl) rfl) (fun S=>?_);refine X6.done ?_;refine⟨S,[(104,54),(105,106)],trivial,⟨⟨rfl,rfl,trivial⟩,⟨?_,rfl,?_,rfl,trivial⟩,rfl,rfl⟩⟩
          · refine congrArg (fun q=>some (Obj.row 6 q 159)) ?_;show gv ((q8 z).set k (Q6 y++[.aU g.v])) k 5 (.aU S.v)=(q8 z).set k (Q6 (Y3 c f y)++[.aU S.v]);unfold gv;rw[m,hl];show((q8 z).set k _).set k _=_;rw[List.set_set];rfl
          · refine congrArg (fun q=>some (Obj.row 2 q 167)) ?_;show MJ V7 (y.lines++[⟨c,f⟩])=MJ V7 (Y3 c f y).lines;rw[hl]
  intro q;refine q4n _ _ ?_;have hat4:((q8 z).set k (Q6 (Y3 c f y)++[.aU q.v]))[k]?=some (Q6 (Y3 c f y)++[.aU q.v]):=by rw[MY,N2 rfl,N2 b]
  have hzk:k<z.length:=(ME.1 w).1;have X:(Z0 (z.set k (q,Q6 (Y3 c f y),(Y3 c f y).lines.map V7))).Perm ((q,(Y3 c f y).lines.map V7)::(Z0 z).eraseIdx k):=by
    rw[show Z0 (z.set k (q,Q6 (Y3 c f y),(Y3 c f y).lines.map V7))=(Z0 z).set k (q,(Y3 c f y).lines.map V7) by simp[Z0,List.map_set]];exact set_perm (by simpa[Z0] using hzk)
  show j6 prog D _ _ _ _;refine j6.gh (Gh.mQ (h:=q) (ls:=(Y3 c f y).lines.map V7) (l':=Z0 (z.set k (q,Q6 (Y3 c f y),(Y3 c f y).lines.map V7))) 104 105 103 rfl rfl rfl X rfl rfl rfl) (fun _=>?_);have hz2:(z.set k (q,Q6 (Y3 c f y),(Y3 c f y).lines.map V7)).map (·.2)=((bb (fun t:Ce=>decide (t.site=s)) ⟨s,e,false,[]⟩ l).1.modify (bb (fun t:Ce=>decide (t.site=s)) ⟨s,e,false,[]⟩ l).2 (iP e c f)).map dB:=by
    have h2:(bb (fun t:Ce=>decide (t.site=s)) ⟨s,e,false,[]⟩ l).2=k:=hq4;have I:z.map (·.2)=(bb (fun t:Ce=>decide (t.site=s)) ⟨s,e,false,[]⟩ l).1.map dB:=Y;have h4:(bb (fun t:Ce=>decide (t.site=s)) ⟨s,e,false,[]⟩ l).1[k]?=some x:=Z;rw[h2,xD h4,List.map_set,List.map_set,I];unfold iP;rw[<-hy];rfl
  refine j6.gh (Gh.close 11 102 103 108 (z.set k (q,Q6 (Y3 c f y),(Y3 c f y).lines.map V7)) rfl rfl rfl (by show(q8 z).set k _=_;simp[q8,List.map_set]) rfl hz2 rfl rfl rfl rfl rfl) (fun _=>?_);show j6 prog D _ _ _ _;refine j6.flat 11 108 109 rfl rfl rfl rfl rfl ?_;rw[CS];(repeat (first|refine H6 hn ?_|refine M4 hn ?_|refine O1 hn ?_|refine M3 hn ?_|refine M0 hn ?_|refine K7 hn ?_|refine ao hn ?_));exact⟨[(0,109)],_,rfl,rfl,⟨rfl,trivial⟩,rfl,rfl,rfl,rfl,rfl⟩
def Gz {N a0 a1 a2 a3 a4 r} (h:rq N a0 a1 a2 a3 a4=some r):Spec prog 129 [] [kY a0,.agg (M8 a1),.agg (bU a2),.int a3,.str a4] (.aZ [.aK 0,.int r.2.1,.int r.2.2.1,.bool r.2.2.2]) [(0,d60 r.1)] [0]:=by
 refine so func129 ntmps129 fun j hn=>?_;unfold rq at h;refine B [3,2,3] fun _ e h=>?_;refine cA (HO e) ?_;refine S [2] ?_;refine Jb 33 hn h [0,3,4,6,7,14] [6,7] (fun _ h g=>?_) ?_
 ·refine kd [0,3,4,6,7,14] [6,7] ?_;exact F8 [5] [0,13,0] [0]
 intro i h;refine I [4] ?_ ?_<;>intro _ h
 ·refine B [3] fun _ f h=>?_;refine cA (jV f) ?_;refine B [3] fun _ a h=>?_;refine cA ((ug a).sw 0 42) ?_;exact Sr [7] [(0,42)]
 refine B [1,3] fun _ b h=>?_;refine cA (jV b) ?_;refine I [2,3,4] ?_ ?_<;>intro _ h
 ·refine kd [0,17,18] [] ?_;refine B [3] fun _ c h=>?_;refine cA ((ug c).sw 0 55) ?_;exact Sr [7] [(0,55)]
 refine S [1] ?_;refine kd [0,3,6,7,17,18] [6,7] ?_;refine B [3] fun _ d h=>?_;refine cA ((HJ N _ _ _ _ _ _ d).sw 0 64) ?_;exact Sr [7] [(0,64)]
def Gv (N:Nat) (l:List Tl) (s:Fit l.length 56) (i:∀t∈l,Fit t.a7.length 16):Spec prog 62 [] [.sl 4 (l.map hJ)] (.cI 0) [(0,.nest 4 162 2 167 (l.map dD))] [0]:=by
  refine Spec.of eg func62 rfl ntmps62 C8 rfl rfl rfl fun u hn=>?_;(repeat (first|refine H6 hn ?_|refine M4 hn ?_|refine O1 hn ?_|refine M3 hn ?_|refine M0 hn ?_|refine K7 hn ?_|refine ao hn ?_));refine J2 (fun c=>?_);(repeat (first|refine H6 hn ?_|refine M4 hn ?_|refine O1 hn ?_|refine M3 hn ?_|refine M0 hn ?_|refine K7 hn ?_|refine ao hn ?_));refine j6.bG 3 3 4 162 rfl rfl rfl ?_;refine j6.gh (Gh.mP 100 2 167 rfl rfl) (fun _=>?_);refine j6.loop (ι:={p:Nat×List (Hd×List AV×List (List AV)) // p.1<=l.length/\p.2.map (·.2)=(l.take p.1).map dD}) (fun p=>[(6,.sl 4 (l.map hJ)),(7,.int l.length),(8,.int p.1.1),(3,.aK 3)])
    (fun p=>[(3,.row 4 (q8 p.1.2) 162),(100,.pins 2 (Z0 p.1.2) 167)]) (fun p=>l.length-p.1.1) ⟨(0,[]),d9,rfl⟩ [] ?_ ?_ ?_
  · exact⟨⟨rfl,rfl,rfl,rfl,trivial⟩,⟨rfl,rfl,trivial⟩,rfl,rfl⟩
  · intro k;rw[hn];rfl
  rintro⟨⟨k,z⟩,o,b⟩;have o:k<=l.length:=o;have b:z.map (·.2)=(l.take k).map dD:=b;(repeat (first|refine H6 hn ?_|refine M4 hn ?_|refine O1 hn ?_|refine M3 hn ?_|refine M0 hn ?_|refine K7 hn ?_|refine ao hn ?_));refine im (fun a=>?_) (fun j=>?_)
  · have a:k<l.length:=by have:(k:Int)<(l.length:Int):=a;omega
    (repeat (first|refine H6 hn ?_|refine M4 hn ?_|refine O1 hn ?_|refine M3 hn ?_|refine M0 hn ?_|refine K7 hn ?_|refine ao hn ?_));refine AN d9 (AN (by simpa using a) ?_);intro w f r;obtain⟨x,d,rfl⟩:=EM f;have d:l[k]?=some x:=d;(repeat (first|refine H6 hn ?_|refine M4 hn ?_|refine O1 hn ?_|refine M3 hn ?_|refine M0 hn ?_|refine K7 hn ?_|refine ao hn ?_));show L9 _ _ _ _ _;refine L9.a_ ((uF N x.a7 x.a7 (IA N (i x (MP d)))).sw 0 14) (by first|exact kF rfl|((repeat (refine AN rfl ?_));exact trivial)) (by(repeat (refine AN rfl ?_));exact trivial) rfl ?_;refine j6.gh (Gh.tq 5 3 14 100 rfl rfl rfl rfl rfl rfl rfl) (fun h=>?_);(repeat (first|refine H6 hn ?_|refine M4 hn ?_|refine O1 hn ?_|refine M3 hn ?_|refine M0 hn ?_|refine K7 hn ?_|refine ao hn ?_));refine Exists.intro [[.int x.site.cls,.str x.site.name,.int x.site.pos,.aU h.v]] (AN aT ?_);have n:(q8 z).length=k:=by
      have:=jd b;rw[Mq] at this;simp only[q8,MW];omega
    refine AN ?_ (Exists.intro (q8 (z++[(h,dD x)])) (AN (by rw[uN];exact O4 _) ?_))
    · show((q8 z).length+1)*56<=_;rw[n];exact Nat.le_trans (Mt 56 a) s
    (repeat (first|refine H6 hn ?_|refine M4 hn ?_|refine O1 hn ?_|refine M3 hn ?_|refine M0 hn ?_|refine K7 hn ?_|refine ao hn ?_));refine MF (AN (xf a c) ?_);have m:(z++[(h,dD x)]).map (·.2)=(l.take (k+1)).map dD:=by
      rw[xK d,List.map_append,List.map_append,show z.map (·.2)=(l.take k).map dD from b];rfl
    refine⟨⟨(k+1,z++[(h,dD x)]),a,m⟩,[(3,19)],by show l.length-(k+1)<l.length-k;omega,⟨⟨rfl,rfl,rfl,rfl,trivial⟩,⟨rfl,?_,trivial⟩,rfl,rfl⟩⟩
    · exact congrArg (fun q=>some (Obj.pins 2 q 167)) (vG z (h,dD x)).symm
  · have e:k=l.length:=by have:¬(k:Int)<(l.length:Int):=j;omega
    subst e;have b:z.map (·.2)=l.map dD:=by
      have:z.map (·.2)=(l.take l.length).map dD:=b;rwa [List.take_length] at this
    refine M0 hn ?_;show j6 prog u _ _ _ _;refine j6.gh (Gh.close 3 3 100 101 z rfl rfl rfl rfl rfl b rfl rfl rfl rfl rfl) ?_;intro _;(repeat (first|refine H6 hn ?_|refine M4 hn ?_|refine O1 hn ?_|refine M3 hn ?_|refine M0 hn ?_|refine K7 hn ?_|refine ao hn ?_));exact⟨[(0,101)],_,rfl,rfl,⟨rfl,trivial⟩,rfl,rfl,rfl,rfl,rfl⟩
def HB (N:Nat) (l:List Tl) (s:St) (c:Int) (r:List Tl) (h:sJ N l s c=some r):Spec prog 130 [] [.sl 4 (l.map hJ),.agg (bU s),.int c] (.aK 0) [(0,.row 4 (r.map hJ) 162)] [0]:=by
  unfold sJ at h;obtain⟨M,h⟩:=j7 h;obtain rfl:=oI h;rw[IT,MR] at M;have hf:Fit (l.length+1) 56:=MZ M.1;have K:∀t∈l,Fit (t.a7.length+1) 16:=fun t Y=>MZ (M.2 t Y);clear h M;refine Spec.of eg func130 rfl ntmps130 C8 rfl rfl rfl fun E hn=>?_;refine H6 hn ?_;show j6 prog E _ _ _ _;refine j6.gh (Gh.bA 4 4 rfl rfl rfl) ?_;intro _;show j6 prog E _ _ _ _;refine j6.gh (Gh.bA 5 5 rfl rfl rfl) ?_;intro _;(repeat (first|refine H6 hn ?_|refine M4 hn ?_|refine O1 hn ?_|refine M3 hn ?_|refine M0 hn ?_|refine K7 hn ?_|refine ao hn ?_));show L9 _ _ _ _ _;refine L9.a_ ((Gv N l (Nat.le_trans (Mt _ (Nat.le_succ _)) hf) (fun t Y=>Nat.le_trans (Mt _ (Nat.le_succ _)) (K t Y))).sw 0 11) (by first|exact kF rfl|((repeat (refine AN rfl ?_));exact trivial)) (by(repeat (refine AN rfl ?_));exact trivial) rfl ?_;(repeat (first|refine H6 hn ?_|refine M4 hn ?_|refine O1 hn ?_|refine M3 hn ?_|refine M0 hn ?_|refine K7 hn ?_|refine ao hn ?_));show L9 _ _ _ _ _;refine L9.hU (Ee (Lq N s l) (fun _ _ h=>FI h)) ?_ rfl ?_
  · show dU [.sl 4 (du 2 (l.map dD)),.fn 171 [.fp (bU s)]] _;rw[Cd];exact kF rfl
  show j6 prog E _ _ _ _;refine j6.gh (Gh.open 7 11 102 103 rfl rfl rfl rfl rfl rfl (fun _=>rfl)) ?_;rintro⟨z,F⟩;refine j6.cut (ι:={ q:Nat×Tl×Hd×List (Hd×List AV×List (List AV)) // q.2.2.2[q.1]?=some (q.2.2.1,dD q.2.1)/\q.2.2.2.map (·.2)=(bb (fun t=>decide (t.site=s)) ⟨s,[]⟩ l).1.map dD/\(bb (fun t=>decide (t.site=s)) ⟨s,[]⟩ l).1[q.1]?=some q.2.1/\(bb (fun t=>decide (t.site=s)) ⟨s,[]⟩ l).2=q.1/\Fit (q.2.1.a7.length+1) 16 })
    (fun q=>[(7,.aK 102),(8,.int q.1.1),(5,.fp [.int c])]) (fun q=>[(102,.row 4 (q8 q.1.2.2.2) 162),(103,.pins 2 ((Z0 q.1.2.2.2).eraseIdx q.1.1) 167),(104,.row 2 (q.1.2.1.a7.map V7) 167),(105,.eqv 104 q.1.2.2.1.v)]) ?_ ?_ ?_
  · (repeat (first|refine H6 hn ?_|refine M4 hn ?_|refine O1 hn ?_|refine M3 hn ?_|refine M0 hn ?_|refine K7 hn ?_|refine ao hn ?_));rcases vX (fun t:Tl=>decide (t.site=s)) l with⟨k,x,e1,B,e3,O⟩|⟨e1,B⟩
    · refine im (fun w=>?_) (fun u=>?_)
      · rw[e1] at w;omega
      · obtain⟨h,L⟩:=Dk F B;have T:(Z0 z).Perm ((h,x.a7.map V7)::(Z0 z).eraseIdx k):=by
          have hk:(Z0 z)[k]?=some (h,x.a7.map V7):=(by simp[Z0,L,dD]);obtain⟨hl,hv⟩:=ME.1 hk;rw[<-hv];exact(List.ae hl).symm
        show j6 prog E _ _ _ _;refine j6.gh (Gh.mR 103 104 105 rfl T rfl rfl rfl rfl rfl) ?_;intro _;refine K7 hn ?_;have ex:bb (fun t:Tl=>decide (t.site=s)) ⟨s,[]⟩ l=(l,k):=by unfold bb;rw[O]
        refine⟨⟨(k,x,h,z),L,by rw[ex];exact F,by rw[ex];exact B,by rw[ex],K x (MP B)⟩,[],⟨⟨rfl,congrArg AV.int e1,rfl,trivial⟩,⟨rfl,rfl,rfl,rfl,trivial⟩,rfl,rfl⟩⟩
    · refine im (fun w=>?_) (fun u=>?_)
      · (repeat (first|refine H6 hn ?_|refine M4 hn ?_|refine O1 hn ?_|refine M3 hn ?_|refine M0 hn ?_|refine K7 hn ?_|refine ao hn ?_));rintro _ rfl hlen;refine j6.ops (jv hn 6 ?_);refine Exists.intro [[.int s.cls,.str s.name,.int s.pos,.aJ]] (AN aT ?_);refine AN ?_ (Exists.intro (q8 z++[[AV.int s.cls,.str s.name,.int s.pos,.aJ]]) (AN (O4 _) ?_))
        · show((q8 z).length+1)*56<=_;rw[show(q8 z).length=l.length by simp only[q8,MW];exact jd F];exact hf
        have ad:(q8 z++[[AV.int s.cls,.str s.name,.int s.pos,.aJ]])[l.length]?=some [AV.int s.cls,.str s.name,.int s.pos,.aJ]:=by
          rw[Ma (by simp[q8,jd F])];simp[q8,jd F]
        show cY prog E _ _ _ _ _;refine cY.gh (Gh.e8 (r:=23) (i:=l.length) (off:=3) (j:=104) (j':=105) (isz:=2) (ie:=167) rfl ad rfl rfl rfl rfl rfl rfl) ?_;intro _;refine cY.done ?_;have ex:bb (fun t:Tl=>decide (t.site=s)) ⟨s,[]⟩ l=(l++[⟨s,[]⟩],l.length):=by unfold bb;rw[B]
        have f:=jd F;refine⟨⟨(l.length,⟨s,[]⟩,⟨none,0,0⟩,z++[(⟨none,0,0⟩,dD ⟨s,[]⟩)]),?_,?_,?_,?_,?_⟩,[(102,23)],⟨⟨rfl,?_,rfl,trivial⟩,⟨?_,?_,rfl,rfl,trivial⟩,rfl,rfl⟩⟩
        · show(z++[_])[l.length]?=_;rw[Ma d9];simp[f]
        · rw[ex];show MJ (fun p:Hd×List AV×List (List AV)=>p.2) (z++[_])=MJ dD (l++[_]);rw[List.map_append,List.map_append,F];rfl
        · rw[ex];show(l++[_])[l.length]?=_;rw[Ma (It _)];simp
        · rw[ex]
        · show(0+1)*16<=_;decide
        · exact congrArg AV.int (by simp[q8,f])
        · refine congrArg (fun q=>some (Obj.row 4 q 162)) ?_;show(q8 z++[_]).set l.length _=q8 (z++[_]);rw[uN,List.set_append_right _ _ (by simp[q8,f])];simp[q8,f,dD,eY]
        · refine congrArg (fun q=>some (Obj.pins 2 q 167)) ?_;show Z0 z=(Z0 (z++[_])).eraseIdx l.length;rw[vG,List.eraseIdx_append_of_length_le (by simp[Z0,f])];simp[Z0,f]
      · rw[e1] at u;omega
  · intro k;rw[hn];rfl
  rintro⟨⟨k,x,h,z⟩,A,U,V,W,X⟩;have A:z[k]?=some (h,dD x):=A;have b:k<(q8 z).length:=by
    have:=(ME.1 A).1;simpa[q8] using this
  have ad:(q8 z)[k]?=some (eY x++[.aU h.v]):=by simp[q8,A,dD]
  (repeat (first|refine H6 hn ?_|refine M4 hn ?_|refine O1 hn ?_|refine M3 hn ?_|refine M0 hn ?_|refine K7 hn ?_|refine ao hn ?_));refine AN d9 (AN (by simpa using b) ?_);refine AN (by simpa using b) (fun d a=>?_);have a:(q8 z)[k]?=some d:=a;obtain rfl:d=eY x++[.aU h.v]:=oI (a.symm.trans ad);refine AN rfl ?_;show L9 _ _ _ _ _;refine L9.hU (zV (Lp N c x.a7) (fun _ _ h=>FN h)) (kF rfl) rfl ?_;refine j6.cut (ι:={ q:Nat×Ln×Hd×List Ln // q.2.2.2=(bb (fun y=>decide (y.cls=c)) ⟨c,0⟩ x.a7).1/\(bb (fun y=>decide (y.cls=c)) ⟨c,0⟩ x.a7).2=q.1/\q.2.2.2[q.1]?=some q.2.1 })
    (fun q=>[(7,.aK 102),(8,.int k),(9,.int q.1.1)]) (fun q=>[(102,.row 4 ((q8 z).set k (eY x++[.aU q.1.2.2.1.v])) 162),(103,.pins 2 ((Z0 z).eraseIdx k) 167),(104,.row 2 (q.1.2.2.2.map V7) 167),(105,.eqv 104 q.1.2.2.1.v)]) ?_ ?_ ?_
  · (repeat (first|refine H6 hn ?_|refine M4 hn ?_|refine O1 hn ?_|refine M3 hn ?_|refine M0 hn ?_|refine K7 hn ?_|refine ao hn ?_));rcases vX (fun y:Ln=>decide (y.cls=c)) x.a7 with⟨j,y,e1,B,e3,O⟩|⟨e1,B⟩
    · refine im (fun w=>?_) (fun u=>?_)
      · rw[e1] at w;omega
      · refine K7 hn ?_;have ex:bb (fun y:Ln=>decide (y.cls=c)) ⟨c,0⟩ x.a7=(x.a7,j):=by unfold bb;rw[O]
        refine⟨⟨(j,y,h,x.a7),by rw[ex],by rw[ex],B⟩,[],⟨⟨rfl,rfl,congrArg AV.int e1,trivial⟩,⟨?_,rfl,rfl,rfl,trivial⟩,rfl,rfl⟩⟩;refine congrArg (fun q=>some (Obj.row 4 q 162)) ?_;show q8 z=(q8 z).set k _;exact(xU ad).symm
    · refine im (fun w=>?_) (fun u=>?_)
      · (repeat (first|refine H6 hn ?_|refine M4 hn ?_|refine O1 hn ?_|refine M3 hn ?_|refine M0 hn ?_|refine K7 hn ?_|refine ao hn ?_));refine AN d9 (AN (by simpa using b) ?_);refine AN (by simpa using b) (fun d a=>?_);have a:(q8 z)[k]?=some d:=a;obtain rfl:d=eY x++[.aU h.v]:=oI (a.symm.trans ad);refine AN rfl ?_;rintro _ rfl S;refine j6.snoc (tY hn C8 ?_);refine AN d9 (AN (by simpa using b) ?_);refine AN (by simpa using b) (fun d a=>?_);have a:(q8 z)[k]?=some d:=a;obtain rfl:d=eY x++[.aU h.v]:=oI (a.symm.trans ad);refine AN rfl ?_;refine Exists.intro (MJ V7 [⟨c,0⟩]) (AN aT ?_);refine AN ?_ (Exists.intro (MJ V7 (x.a7++[⟨c,0⟩])) (AN (sV (O4 _)) ?_))
        · show((x.a7.map V7).length+1)*16<=_;rw[MW];exact X
        refine AN d9 (AN (by simpa using b) ?_);refine AN (by simpa using b) (AN ?_ ?_)
        · intro d a;have a:(q8 z)[k]?=some d:=a;obtain rfl:d=eY x++[.aU h.v]:=oI (a.symm.trans ad);show 3<4;omega
        show X6 E _ _ _;refine X6.gh (Gh.bR 102 106 rfl rfl rfl (fun _=>rfl) rfl) (fun g=>?_);refine X6.done ?_;have ex:bb (fun y:Ln=>decide (y.cls=c)) ⟨c,0⟩ x.a7=(x.a7++[⟨c,0⟩],x.a7.length):=by unfold bb;rw[B]
        refine⟨⟨(x.a7.length,⟨c,0⟩,g,x.a7++[⟨c,0⟩]),by rw[ex],by rw[ex],l9⟩,[(104,49),(105,106)],⟨⟨rfl,rfl,?_,trivial⟩,⟨?_,rfl,rfl,rfl,trivial⟩,rfl,rfl⟩⟩
        · exact congrArg AV.int l9
        · refine congrArg (fun q=>some (Obj.row 4 q 162)) ?_;show gv (q8 z) k 3 (.aU g.v)=(q8 z).set k _;unfold gv;rw[ad];rfl
      · rw[e1] at u;omega
  · intro k;rw[hn];rfl
  rintro⟨⟨j,y,m,G⟩,Q,R,e⟩;have J:((q8 z).set k (eY x++[.aU m.v]))[k]?=some (eY x++[.aU m.v]):=by rw[MY,N2 rfl,N2 b]
  have e:G[j]?=some y:=e;have C:j<G.length:=(ME.1 e).1;have D:(G.map V7)[j]?=some (V7 y):=by simp[e]
  (repeat (first|refine H6 hn ?_|refine M4 hn ?_|refine O1 hn ?_|refine M3 hn ?_|refine M0 hn ?_|refine K7 hn ?_|refine ao hn ?_));refine AN d9 (AN (by simpa using b) ?_);refine AN (by simpa using b) (fun d a=>?_);have a:((q8 z).set k (eY x++[.aU m.v]))[k]?=some d:=a;obtain rfl:d=eY x++[.aU m.v]:=oI (Eq.trans (Eq.symm a) J);refine AN rfl ?_;refine AN d9 (AN (by simpa using C) ?_);refine AN (by simpa using C) (fun H n=>?_);have n:(G.map V7)[j]?=some H:=n;obtain rfl:H=V7 y:=oI (Eq.trans (Eq.symm n) D);refine Or.inr ?_;refine AN d9 (AN (by simpa using C) ?_);have hzk:k<z.length:=(ME.1 A).1;have Z:G.set j ⟨y.cls,wr (y.found+1)⟩=fg c x.a7:=by
    have h1:G=(bb (fun y=>decide (y.cls=c)) ⟨c,0⟩ x.a7).1:=Q;have P:(bb (fun y=>decide (y.cls=c)) ⟨c,0⟩ x.a7).2=j:=R;unfold fg;simp only;rw[P,<-h1,xD e]
  refine AN (by simpa using C) (fun I o=>?_);have o:(G.map V7)[j]?=some I:=o;obtain rfl:I=V7 y:=oI (Eq.trans (Eq.symm o) D);refine Exists.intro (MJ V7 (fg c x.a7)) (AN (by rw[<-Z];exact D0 e aT) ?_);have T:(Z0 (z.set k (m,eY x,(fg c x.a7).map V7))).Perm ((m,(fg c x.a7).map V7)::(Z0 z).eraseIdx k):=by
    rw[show Z0 (z.set k (m,eY x,(fg c x.a7).map V7))=(Z0 z).set k (m,(fg c x.a7).map V7) by simp[Z0,List.map_set]];exact set_perm (by simpa[Z0] using hzk)
  show j6 prog E _ _ _ _;refine j6.gh (Gh.mQ (h:=m) (ls:=(fg c x.a7).map V7) (l':=Z0 (z.set k (m,eY x,(fg c x.a7).map V7))) 104 105 103 rfl rfl rfl T rfl rfl rfl) (fun _=>?_);have hz2:(z.set k (m,eY x,(fg c x.a7).map V7)).map (·.2)=(tO s c l).map dD:=by
    have P:(bb (fun t=>decide (t.site=s)) ⟨s,[]⟩ l).2=k:=W;have h3:z.map (·.2)=(bb (fun t=>decide (t.site=s)) ⟨s,[]⟩ l).1.map dD:=U;have h4:(bb (fun t=>decide (t.site=s)) ⟨s,[]⟩ l).1[k]?=some x:=V;unfold tO;simp only;rw[P,xD h4,List.map_set,List.map_set,h3];rfl
  refine j6.gh (Gh.close 7 102 103 107 (z.set k (m,eY x,(fg c x.a7).map V7)) rfl rfl rfl (by show(q8 z).set k _=_;simp[q8,List.map_set]) rfl hz2 rfl rfl rfl rfl rfl) (fun _=>?_);show j6 prog E _ _ _ _;refine j6.flat 7 107 108 rfl rfl rfl rfl rfl ?_;rw[Cd];(repeat (first|refine H6 hn ?_|refine M4 hn ?_|refine O1 hn ?_|refine M3 hn ?_|refine M0 hn ?_|refine K7 hn ?_|refine ao hn ?_));exact⟨[(0,108)],_,rfl,rfl,⟨rfl,trivial⟩,rfl,rfl,rfl,rfl,rfl⟩
def Ey {N a0 a1 a2 b0 b1 r} (h:p6 N a0 a1 a2 b0 b1=some r):Spec prog 128 [(1048,.box (eF b0) 153)] [.agg (bU a0),.int a1,.str a2,.ptr 1048 0,.fp (M8 b1)] (.aZ [.int r.1,.int r.2.1]) [(1048,.box (eF r.2.2) 153)] []:=by
 refine so func128 ntmps128 fun e hn=>?_;unfold p6 at h;refine B [3,3] fun _ a h=>?_;refine cA ((Gz a).sw 0 21) ?_;refine kd [1,3,5,10,11,12,13] [5,21,1048] ?_;refine B [3,3] fun _ b h=>?_;refine cA ((HB N _ _ _ _ b).sw 0 32) ?_;refine S [2,3] ?_;refine J e0 hn h nl (fun s=>[(1048,.box [N8 b0.world.a7,jO b0.world.heap,.int b0.world.aC,.int b0.ew.value.k,.int b0.ew.value.n,.int b0.ew.err,.int b0.ew.sends,.aK 21,.aK 32,.int s.1,.int s.2] 153)]) [3,11,12] [21,32] (fun _ h g=>?_) ?_
 ·exact F8 [4] [5,12] [5,12]
 rintro⟨c,d⟩ h;refine S [3] ?_;refine j6.ar 21 rfl ?_;refine j6.ar 32 rfl ?_;exact Sr [7]
def Ft {N a0 a1 a2 a3 r} (h:J5 N a0 a1 a2 a3=some r):Spec prog 78 [] [.agg (M8 a0),.int a1,.agg (G9 a2),.agg (bd a3)] (.int r) [] []:=by
 refine so func78 ntmps78 fun n hn=>?_;unfold J5 at h;refine S [3,3,2,3] ?_;refine J e1 hn h (fun s=>[(9,.int s.1),(10,.int s.2)]) nl [7] [7] (fun _ h g=>?_) ?_
 ·refine S [6,2,3] ?_;refine Jb 13 hn h [1,4,6,7,9,10,12] [4,6,7] (fun _ h g=>?_) ?_
  ·refine Ij [4] [1] fun _ h=>?_;refine S [3] ?_;refine eA 13 hn h [1,4,6,7,9,10,12] [4,6,7] [] fun _ h g=>?_;refine Ij [4] [1] fun _ h=>?_;refine S [3] ?_;refine eA 13 hn h [1,4,6,7,9,10,12] [4,6,7] [] fun _ h g=>?_;refine Ij [4] [1] fun _ h=>?_;refine S [3] ?_;refine eA 13 hn h [1,4,6,7,9,10,12] [4,6,7] [] fun _ h g=>?_;refine Ij [4] [1] fun _ h=>?_;refine kd [1,4,6,7,9,10,12] [4,6,7] ?_;refine S [3] ?_;refine eA 13 hn h [1,4,6,7,9,10,12] [4,6,7] [] fun _ h g=>?_;refine Ij [4] [1] fun _ h=>?_;refine S [3] ?_;refine eA 13 hn h [1,4,6,7,9,10,12] [4,6,7] [] fun _ h g=>?_;exact F8 [4] [1] [5]
  intro m h;refine Jk e1 hn h (fun s=>[(9,.int s.1),(10,.int s.2)]) nl [7] [7] [] fun _ h g=>?_;refine Ij [4] [1] fun _ h=>?_;refine S [3] ?_;refine Jk e1 hn h (fun s=>[(9,.int s.1),(10,.int s.2)]) nl [7] [7] [] fun _ h g=>?_;refine Ij [4] [5,12] fun _ h=>?_;refine S [2,3] ?_;refine Jb 26 hn h [1,4,6,7,9,12] [4,6,7] (fun _ h g=>?_) ?_
  ·exact F8 [4] [1] [5]
  intro c h;refine Jk e1 hn h (fun s=>[(9,.int s.1),(10,.int s.2)]) nl [7] [7] [] fun _ h g=>?_;refine Ij [4] [5,12] fun _ h=>?_;refine S [2,3] ?_;refine Jb 32 hn h [1,4,6,7,9,12] [4,6,7] (fun _ h g=>?_) ?_
  ·exact F8 [4] [1] [5]
  intro d h;refine Jk e1 hn h (fun s=>[(9,.int s.1),(10,.int s.2)]) nl [7] [7] [] fun _ h g=>?_;refine I [4] ?_ ?_<;>intro _ h
  ·refine B [5] fun _ a h=>?_;refine cA (uY a) ?_;exact Sj [12]
  refine S [3] ?_;refine Jk e1 hn h (fun s=>[(9,.int s.1),(10,.int s.2)]) nl [7] [7] [] fun _ h g=>?_;refine Ij [4] [5] fun _ h=>?_;refine S [3] ?_;refine Jk e1 hn h (fun s=>[(10,.int s)]) nl [7,9] [7] [] fun _ h g=>?_;refine I [4] ?_ ?_<;>intro _ h
  ·refine S [3,13,12,2] ?_;refine Jb 54 hn h [7,9,10] [7] (fun _ h g=>?_) ?_
   ·exact F8 [5] [0] [0]
   intro e h;refine Ir [4] [3,7] fun _ h=>?_;exact Sj [1]
  refine S [3] ?_;refine Jk e1 hn h (fun s=>[(10,.int s)]) nl [7,9] [7] [] fun _ h g=>?_;refine Ij [4] [5] fun _ h=>?_;refine S [2,3] ?_;refine Jb 57 hn h [6,7,9] [6,7] (fun _ h g=>?_) ?_
  ·exact F8 [4] [1] [5]
  intro f h;refine Ij [4] [5,13,12] fun _ h=>?_;exact Sr [3,7]
 rintro⟨k,l⟩ h;refine S [2,2] ?_;refine Jb 73 hn h [7] [7] (fun _ h g=>?_) ?_
 ·exact F8 [5] [0] [0]
 intro i h;refine Ir [4] [3,7] fun _ h=>?_;refine S [1,2,2] ?_;refine Jb 102 hn h [] [] (fun _ h g=>?_) ?_
 ·refine I [5] ?_ ?_<;>intro _ h
  ·refine B [0] fun _ b h=>?_;refine cA (wV b) ?_;refine Ij [0] [0] fun _ h=>?_;refine I [0] ?_ ?_<;>intro _ h
   ·refine Ij [0] [0] fun _ h=>?_;exact F8 [0] [0] [0]
   exact F8 [0] [0] [0]
  refine I [0] ?_ ?_<;>intro _ h
  ·refine Ij [0] [0] fun _ h=>?_;exact F8 [0] [0] [0]
  exact F8 [0] [0] [0]
 intro j h;exact ia [4] [3,7] [1,3,7]
def Fx {N a0 r} (h:ov N a0=some r):Spec prog 79 [] [.agg (G9 a0)] (.aZ [.aK 0,.agg (vY r.2)]) [(0,w3 r.1)] [0]:=by
 refine so func79 ntmps79 fun Γ hn=>?_;unfold ov at h;refine A [3,3,13] fun K h=>?_;refine kj (enc:=cE) (x:=(0:Int)) K aT ?_;refine S [2,3,13] ?_;refine j6.cK 21 rfl (fun w=>?_);refine LU e0 hn (MI (a0.code.length:Int).toNat (0:Int)) (fun l k v=>ko N l k v) h (fun D v=>[(22,.int (D:Int))]) (fun D v=>[(19,w3 v)]) [1,3,4,21] [1,3] [] nl (fun s=>[(19,w3 s)]) [1,3,4] [1,3] ?_ ?_ ?_
 ·intro _ g D T h _;rw[ko] at h;exact Sj [3,2,4,0,20]
 ·intro _ g D T U h n _;rw[ko] at h;refine B [3,2,4,0,1,2,6,3,5] fun _ c h=>?_;refine bT c ?_;refine sM (l6 c).2 (-1:Int) ?_;refine S [5] ?_;refine MF (AN (jc n w) ?_);exact le (T.set ((D:Int).toNat) (-1:Int)) []
 intro v7 h;refine S [3] ?_;refine bS cE [(0:Int)] ?_;refine bS cE [(0:Int)] ?_;refine S [2,3] ?_;refine LF e1 hn (v7,[(0:Int)],[(0:Int)],(0:Int)) (fun l v=>mg N a0 l v.1 v.2.1 v.2.2.1 v.2.2.2) h (fun v=>[(8,.int v.2.2.2)]) (fun v=>[(19,w3 v.1),(29,w3 v.2.1),(30,w3 v.2.2.1)]) [1,3,4,6,7] [1,3] [] nl (fun s=>[(19,w3 s)]) [3,4] [3] ?_ ?_
 ·rintro _ g ⟨W,L,M,O⟩ V h;rw[mg] at h;refine I [2,3,13,4] ?_ ?_<;>intro _ h
  ·refine S [1,2] ?_;refine J e1 hn h nl (fun s=>[(19,w3 s.1),(29,w3 s.2.1),(30,w3 s.2.2)]) [1,3,4,6,7,8] [1,3] (fun _ h g=>?_) ?_
   ·refine B [6,2,8] fun _ d h=>?_;refine bT d ?_;refine V8 (l6 d).2 ?_;refine B [] fun b e h=>?_;refine bT e ?_;refine V8 (l6 e).2 ?_;refine S [2,2] ?_;refine Jb 53 hn h [1,3,4,6,7,8,9,10] [1,3,19,29,30] (fun _ h g=>?_) ?_
    ·refine kd [1,3,4,6,7,8,9,10] [1,3,19,29,30] ?_;exact F8 [5,13] [0] [0]
    intro Y h;refine I [4] ?_ ?_<;>intro _ h
    ·refine S [2,8,13] ?_;refine nR 2 202 1 3 ?_;exact Sr [7] [(0,202)]
    refine B [1,2,3] fun _ f h=>?_;refine bT f ?_;refine V8 (l6 f).2 ?_;refine I [4] ?_ ?_<;>intro _ h
    ·refine B [2,3] fun _ i h=>?_;refine bT i ?_;refine V8 (l6 i).2 ?_;refine I [4] ?_ ?_<;>intro _ h
     ·refine kd [3,9] [3] ?_;refine S [3] ?_;refine nR 2 202 1 3 ?_;exact Sr [7] [(0,202)]
     exact Sj [1,20]
    refine B [1,3] fun _ j h=>?_;refine bT j ?_;refine sM (l6 j).2 b ?_;refine kd [1,3,4,6,7,8,9,10] [1,3,19,29,30] ?_;refine B [3] fun _ y h=>?_;refine G6 y ?_;refine B [] fun o u h=>?_;refine cA ((GQ u).sw 0 82) ?_;refine S [2,2] ?_;refine Jb 101 hn h [1,3,4,6,7,8,9,10,12,13] [1,3,19,29,30,82] (fun _ h g=>?_) ?_
    ·refine kd [1,3,4,6,7,8,9,10,11,12,13] [1,3,19,29,30,82] ?_;refine Ij [5] [0] fun _ h=>?_;refine B [0] fun _ z h=>?_;refine G6 z ?_;exact F8 [0] [0] [0]
    intro Z h;refine I [4] ?_ ?_<;>intro _ h
    ·refine S [3] ?_;refine nR 2 202 1 3 ?_;exact Sr [7] [(0,202)]
    refine I [1,2,3,12,4] ?_ ?_<;>intro _ h
    ·refine S [3] ?_;refine nR 2 202 1 3 ?_;exact Sr [7] [(0,202)]
    refine S [1,3] ?_;refine J2 fun t=>?_;refine LR e0 hn (L,M) (fun l k v=>kq N b o l k v.1 v.2) h (fun a v=>[(112,.int (a:Int))]) (fun a v=>[(29,w3 v.1),(30,w3 v.2)]) [1,3,4,6,7,8,10,12,110,111] [1,3,19,82] [] nl (fun s=>[(29,w3 s.1),(30,w3 s.2)]) [1,3,4,6,7,8] [1,3,19] ?_ ?_ ?_
    ·rintro _ g a ⟨E,F⟩ h _;rw[kq] at h;exact Sj [3,2,4,0,20]
    ·rintro _ g a ⟨E,F⟩ x79 H h _ C _;rw[kq] at h;refine B [3,2,4,0,1,2,6,3] fun G m h=>?_;refine bT m ?_;refine V8 (l6 m).2 ?_;refine S [5] ?_;refine bS cE [G] ?_;refine A [] fun p h=>?_;refine aM p ?_;refine S [12] ?_;refine bS cE [(wr (b+o.2.1))] ?_;refine A [] fun q h=>?_;refine aM q ?_;refine kd [1,3,4,6,7,8,10,12,110,111,112] [1,3,19,82,119,125] ?_;refine S [5] ?_;refine MF (AN (M7 C t) ?_);exact le ((E++[G]),(F++[(wr (b+o.2.1))])) [(29,119),(30,125)]
    rintro⟨v73,v74⟩ h;exact je
   rintro⟨P,Q,R⟩ h;refine S [5,12] ?_;exact le (P,Q,R,(wr (O+(1:Int)))) []
  exact Sj [20]
 intro X h;exact Sr [3,7] [(0,19)]
def GJ {N a0 a1 a2 r} (h:ic N a0 a1 a2=some r):Spec prog 43 [] [.agg (M8 a0),.int a1,.agg (G9 a2)] (.agg (vY r)) [] []:=by
 refine so func43 ntmps43 fun p hn=>?_;unfold ic at h;refine S [3,2,2] ?_;refine Jb 20 hn h [1,3,5,6] [3,5,6] (fun _ h g=>?_) ?_
 ·exact F8 [5] [0] [0,13,0]
 intro n h;refine Ir [4] [3,7] fun _ h=>?_;refine B [1,2,3] fun _ i h=>?_;refine cA (wV i) ?_;refine Ir [4] [3,7] fun _ h=>?_;refine S [1,2,2] ?_;refine Jb 44 hn h [1,3,5,6] [3,5,6] (fun _ h g=>?_) ?_
 ·refine Ij [5] [0] fun _ h=>?_;refine Ij [0] [0] fun _ h=>?_;exact F8 [0] [0] [0]
 intro o h;refine Ir [4] [3,7] fun _ h=>?_;refine Ir [1,2,3,4] [3,7] fun _ h=>?_;refine S [1,2,2] ?_;refine Jb 59 hn h [1,3,5,6] [3,5,6] (fun _ h g=>?_) ?_
 ·exact F8 [5,13] [0] [0,13,0]
 intro j h;refine Ir [4] [3,7] fun _ h=>?_;refine S [1,2,3] ?_;refine J2 fun c=>?_;refine LR e1 hn () (fun l k v=>U6 N a0 a1 a2 l k) h (fun a v=>[(64,.int (a:Int))]) (fun a v=>[]) [1,3,5,6,62,63] [3,5,6] [] nl nl [5,6] [5,6] ?_ ?_ ?_
 ·intro _ g a _ h _;rw[U6] at h;exact Sj [3,2,4,0,20]
 ·intro _ g a _ m f h _ b _;rw[U6] at h;refine S [3,2,4,0,1,2,6,3] ?_;refine P9 b ?_;refine B [3] fun _ d h=>?_;refine cA (Ft d) ?_;refine kd [1,3,5,6,7,9,62,63,64] [3,5,6] ?_;refine Ir [3,4] [3,7] fun _ h=>?_;refine S [1,5] ?_;refine MF (AN (M7 b c) ?_);exact le () []
 rintro⟨⟩ h;refine B [3] fun _ e h=>?_;refine cA ((Fx e).sw 0 82) ?_;exact Sr [3,7]
def F2 {N a0 r} (h:jX N a0=some r):Spec prog 21 [] [.agg (M8 a0)] (.int r) [] []:=by
 refine so func21 ntmps21 fun Γ hn=>?_;unfold jX at h;refine B [3,3] fun r1 hr2 h=>?_;refine cA (H4 N _ hr2) ?_;refine S [2,2] ?_;refine Jb 39 hn h [1,3] [1,3] (fun _ h g=>?_) ?_
 ·refine Ij [5,13] [0] fun _ h=>?_;exact F8 [0,13,0] [0] [0,13,0]
 intro v3 h;refine Ir [4] [3,7] fun _ h=>?_;refine S [1,2,2] ?_;refine Jb 47 hn h [1,3] [1,3] (fun _ h g=>?_) ?_
 ·exact F8 [5] [0] [0]
 intro v11 h;refine Ir [4] [3,7] fun _ h=>?_;refine S [1,2,3] ?_;refine J2 fun E=>?_;refine LR e1 hn () (fun l k v=>O9 N a0 r1 l k) h (fun i v=>[(51,.int (i:Int))]) (fun i v=>[]) [1,3,49,50] [1,3] [] nl nl [1,3] [1,3] ?_ ?_ ?_
 ·intro _ g i _ h _;rw[O9] at h;exact Sj [3,2,4,0,20]
 ·intro _ g i _ x21 W h _ o _;rw[O9] at h;refine S [3,2,4,0,1,2,6,3] ?_;refine P9 o ?_;refine S [2,2] ?_;refine Jb 74 hn h [1,3,4,5,49,50,51] [1,3,5] (fun _ h g=>?_) ?_
  ·refine kd [1,3,4,5,49,50,51] [1,3,5] ?_;refine B [8] fun _ L h=>?_;refine cA (wV L) ?_;refine Ij [] [0] fun _ h=>?_;refine I [0] ?_ ?_<;>intro _ h
   ·refine B [0] fun _ O h=>?_;refine G6 O ?_;exact Sj [0]
   exact Sj [0]
  intro v24 h;refine Ir [4] [3,7] fun _ h=>?_;refine A [1,2,3] fun D h=>?_;refine jr D rfl rfl ?_;refine J2 fun F=>?_;refine LR e1 hn () (fun l k v=>T9 N x21 l k) h (fun j v=>[(80,.int (j:Int))]) (fun j v=>[]) [1,3,4,5,49,50,51,78,79] [1,3,5] [] nl nl [1,3,4,5,49,50,51] [1,3,5] ?_ ?_ ?_
  ·intro _ g j _ h _;rw[T9] at h;exact Sj [3,2,4,0,20]
  ·intro _ g j _ x40 X h _ p _;rw[T9] at h;refine S [3,2,4,0,1,2,6,3] ?_;refine P9 p ?_;refine I [3,4] ?_ ?_<;>intro _ h
   ·refine kd [] [] ?_;exact Sr [3,7]
   refine S [1] ?_;refine kd [1,3,4,5,49,50,51,78,79,80] [1,3,5] ?_;refine S [5] ?_;refine MF (AN (M7 p F) ?_);exact le () []
  rintro⟨⟩ h;refine S [3,2,3] ?_;refine J e1 hn h (fun s=>[(9,.int s)]) nl [1,3,5,8,49,50,51] [1,3,5] (fun _ h g=>?_) ?_
  ·refine I [4] ?_ ?_<;>intro _ h
   ·refine B [3,2,8] fun _ P h=>?_;refine G6 P ?_;refine I [4] ?_ ?_<;>intro _ h
    ·refine kd [] [] ?_;exact Sr [3,7]
    exact Sj [1]
   refine S [2] ?_;refine Jb 119 hn h [1,3,5,8,9,49,50,51] [1,3,5] (fun _ h g=>?_) ?_
   ·refine Ij [5] [0] fun _ h=>?_;refine Ij [0] [0] fun _ h=>?_;exact F8 [0] [0] [0]
   intro v50 h;refine Ir [4] [3,7] fun _ h=>?_;exact Sj [1]
  intro v44 h;refine S [2] ?_;refine Jb 129 hn h [1,3,49,50,51] [1,3] (fun _ h g=>?_) ?_
  ·exact F8 [5] [0] [0]
  intro v56 h;refine Ir [4] [3,7] fun _ h=>?_;refine S [1,5] ?_;refine MF (AN (M7 o E) ?_);exact le () []
 rintro⟨⟩ h;refine S [2,3] ?_;refine J2 fun G=>?_;refine LR e1 hn () (fun l k v=>X5 N a0 r1 l k) h (fun c v=>[(134,.int (c:Int))]) (fun c v=>[]) [1,3,132,133] [1,3] [] nl nl [1] [1] ?_ ?_ ?_
 ·intro _ g c _ h _;rw[X5] at h;exact Sj [3,2,4,0,20]
 ·intro _ g c _ x66 Y h _ q _;rw[X5] at h;refine S [3,2,4,0,1,2,6,3] ?_;refine P9 q ?_;refine B [2,3] fun _ M h=>?_;refine cA (uY M) ?_;refine Ir [4] [3,7] fun _ h=>?_;refine I [1,2,3,13,4] ?_ ?_<;>intro _ h
  ·refine kd [] [] ?_;exact Sr [3,7]
  refine S [1] ?_;refine kd [1,3,10,11,132,133,134] [1,3,11] ?_;refine S [3] ?_;refine J2 fun H=>?_;refine LR e1 hn () (fun l k v=>P6 N a0 r1 c x66 l k) h (fun m v=>[(150,.int (m:Int))]) (fun m v=>[]) [1,3,10,11,132,133,134,148,149] [1,3,11] [] nl nl [1,3,132,133,134] [1,3] ?_ ?_ ?_
  ·intro _ g m _ h _;rw[P6] at h;exact Sj [3,2,4,0,20]
  ·intro _ g m _ x80 Z h _ t _;rw[P6] at h;refine S [3,2,4,0,1,2,6,3] ?_;refine P9 t ?_;refine S [2,2] ?_;refine Jb 168 hn h [1,3,10,11,13,132,133,134,148,149,150] [1,3,11,13] (fun _ h g=>?_) ?_
   ·refine I [8] ?_ ?_<;>intro _ h
    ·refine B [0,12,0] fun _ Q h=>?_;refine G6 Q ?_;exact Sj [0]
    exact Sj [0]
   intro v83 h;refine Ir [4] [3,7] fun _ h=>?_;refine B [1,3,2,3] fun _ R h=>?_;refine G6 R ?_;refine J2 fun K=>?_;refine LR e0 hn false (fun l k v=>J4 N c x80 l k v) h (fun n v=>[(14,.bool v),(175,.int (n:Int))]) (fun n v=>[]) [1,3,10,11,13,132,133,134,148,149,150,173,174] [1,3,11,13] [] (fun s=>[(14,.bool s)]) nl [1,3,10,11,13,132,133,134,148,149,150] [1,3,11,13] ?_ ?_ ?_
   ·intro _ g n v93 h _;rw[J4] at h;exact Sj [3,2,4,0,20]
   ·intro _ g n v93 x100 rest97 h _ d _;rw[J4] at h;refine S [3,2,4,0,1,2] ?_;refine Jb 14 hn h [1,3,10,11,13,132,133,134,148,149,150,173,174,175] [1,3,11,13] (fun _ h g=>?_) ?_
    ·refine S [6,3] ?_;refine P9 d ?_;refine eA 14 hn h [1,3,10,11,13,132,133,134,148,149,150,173,174,175] [1,3,11,13] [] fun _ h g=>?_;refine kd [1,3,10,11,13,14,16,132,133,134,148,149,150,173,174,175] [1,3,11,13,16] ?_;refine Ij [5] [0] fun _ h=>?_;refine I [0] ?_ ?_<;>intro _ h
     ·refine I [0] ?_ ?_<;>intro _ h
      ·refine I [0] ?_ ?_<;>intro _ h
       ·refine I [0] ?_ ?_<;>intro _ h
        ·exact F8 [0] [0,13,0] [0]
        exact Sj [0]
       exact Sj [0]
      exact Sj [0]
     exact Sj [0]
    intro V h;refine S [5] ?_;refine MF (AN (M7 d K) ?_);exact le V []
   intro v95 h;refine B [3] fun _ x h=>?_;refine cA (GJ x) ?_;refine S [2] ?_;refine Jb 225 hn h [1,3,10,11,17,132,133,134,148,149,150] [1,3,11,17] (fun _ h g=>?_) ?_
   ·refine kd [1,3,10,11,14,17,132,133,134,148,149,150] [1,3,11,17] ?_;exact F8 [5] [0] [0]
   intro v116 h;refine Ir [4] [3,7] fun _ h=>?_;refine S [1,5] ?_;refine MF (AN (M7 t H) ?_);exact le () []
  rintro⟨⟩ h;refine S [5] ?_;refine MF (AN (M7 q G) ?_);exact le () []
 rintro⟨⟩ h;refine S [2,3] ?_;refine J2 fun u=>?_;refine LR e1 hn () (fun l k v=>U2 N a0 l k) h (fun a v=>[(233,.int (a:Int))]) (fun a v=>[]) [1,231,232] [1] [] nl nl [] [] ?_ ?_ ?_
 ·intro _ g a _ h _;rw[U2] at h;exact Sj [3,2,4,0,20]
 ·intro _ g a _ x126 T h _ e _;rw[U2] at h;refine S [3,2,4,0,1,2,6,3] ?_;refine P9 e ?_;refine S [2,2] ?_;refine Jb 267 hn h [1,19,231,232,233] [1,19] (fun _ h g=>?_) ?_
  ·refine kd [1,19,231,232,233] [1,19] ?_;refine Ij [8] [0] fun _ h=>?_;refine I [0] ?_ ?_<;>intro _ h
   ·refine Ij [0] [0] fun _ h=>?_;refine Ij [0,13,0] [0] fun _ h=>?_;refine B [0,13,0] fun _ y h=>?_;refine cA (uY y) ?_;exact Sj [0]
   refine Ij [0,13] [0] fun _ h=>?_;refine B [0,13,0] fun _ z h=>?_;refine cA (uY z) ?_;exact Sj [0]
  intro v129 h;refine Ir [4] [3,7] fun _ h=>?_;refine S [1,3] ?_;refine J2 fun w=>?_;refine LR e1 hn () (fun l k v=>U3 N a0 l k) h (fun b v=>[(271,.int (b:Int))]) (fun b v=>[]) [1,231,232,233,269,270] [1] [] nl nl [1,231,232,233] [1] ?_ ?_ ?_
  ·intro _ g b _ h _;rw[U3] at h;exact Sj [3,2,4,0,20]
  ·intro _ g b _ x151 U h _ f _;rw[U3] at h;refine S [3,2,4,0,1,2,6,3] ?_;refine P9 f ?_;refine B [3,13] fun _ C h=>?_;refine cA (FC C) ?_;refine kd [1,22,231,232,233,269,270,271] [1] ?_;refine Ir [3,4] [3,7] fun _ h=>?_;refine S [1,5] ?_;refine MF (AN (M7 f w) ?_);exact le () []
  rintro⟨⟩ h;refine S [5] ?_;refine MF (AN (M7 e u) ?_);exact le () []
 rintro⟨⟩ h;exact Sr [3,7]
def Fg {N a0 a1 r} (h:rD N a0 a1=some r):Spec prog 26 [] [.agg (M8 a0),.agg (M8 a1)] (.bool r) [] []:=by
 refine so func26 ntmps26 fun P hn=>?_;unfold rD at h;refine S [3,2,2] ?_;refine Jb 36 hn h [2,3] [2,3] (fun _ h g=>?_) ?_
 ·refine Ij [5] [0] fun _ h=>?_;exact F8 [0,13,0,13,0] [0] [0,13,0,13,0]
 intro O h;refine Ir [4] [3,7] fun _ h=>?_;refine S [1,2,3] ?_;refine J2 fun m=>?_;refine LR e1 hn () (fun l k v=>mY N a1 l k) h (fun b v=>[(40,.int (b:Int))]) (fun b v=>[]) [2,3,38,39] [2,3] [] nl nl [2,3] [2,3] ?_ ?_ ?_
 ·intro _ g b _ h _;rw[mY] at h;exact Sj [3,2,4,0,20]
 ·intro _ g b _ J z h _ e _;rw[mY] at h;refine S [3,2,4,0,1,2,6,3] ?_;refine P9 e ?_;refine B [3] fun E s h=>?_;refine G6 s ?_;refine S [2,2] ?_;refine Jb 77 hn h [2,3,6,7,38,39,40] [2,3,6,7] (fun _ h g=>?_) ?_
  ·refine kd [2,3,6,7,38,39,40] [2,3,6,7] ?_;refine Ij [5] [0] fun _ h=>?_;refine Ij [0] [0] fun _ h=>?_;exact F8 [0] [0] [0,13,0,13,0]
  intro F h;refine Ir [4] [3,7] fun _ h=>?_;refine S [1,3] ?_;refine J2 fun n=>?_;refine LR e1 hn () (fun l k v=>mW N E l k) h (fun c v=>[(81,.int (c:Int))]) (fun c v=>[]) [2,3,7,38,39,40,79,80] [2,3,7] [] nl nl [2,3,38,39,40] [2,3] ?_ ?_ ?_
  ·intro _ g c _ h _;rw[mW] at h;exact Sj [3,2,4,0,20]
  ·intro _ g c _ K A h _ f _;rw[mW] at h;refine S [3,2,4,0,1,2,6,3] ?_;refine P9 f ?_;refine B [3] fun _ t h=>?_;refine G6 t ?_;refine S [2] ?_;refine Jb 124 hn h [2,3,7,38,39,40,79,80,81] [2,3,7] (fun _ h g=>?_) ?_
   ·refine kd [2,3,7,9,10,38,39,40,79,80,81] [2,3,7,9,10] ?_;refine Ij [5] [0] fun _ h=>?_;refine Ij [0] [0] fun _ h=>?_;refine Ij [0] [0] fun _ h=>?_;refine Ij [0] [0] fun _ h=>?_;refine B [0] fun _ q h=>?_;refine cA (Fj q) ?_;exact Sj [0]
   intro G h;refine Ir [4] [3,7] fun _ h=>?_;refine S [1,5] ?_;refine MF (AN (M7 f n) ?_);exact le () []
  rintro⟨⟩ h;refine S [5] ?_;refine MF (AN (M7 e m) ?_);exact le () []
 rintro⟨⟩ h;refine S [2,3] ?_;refine J2 fun o=>?_;refine LR e1 hn () (fun l k v=>mX N a1 l k) h (fun a v=>[(130,.int (a:Int))]) (fun a v=>[]) [3,128,129] [3] [] nl nl [] [] ?_ ?_ ?_
 ·intro _ g a _ h _;rw[mX] at h;exact Sj [3,2,4,0,20]
 ·intro _ g a _ L C h _ i _;rw[mX] at h;refine S [3,2,4,0,1,2,6,3] ?_;refine P9 i ?_;refine S [2,2] ?_;refine Jb 156 hn h [3,11,12,128,129,130] [3,12] (fun _ h g=>?_) ?_
  ·refine kd [3,11,12,128,129,130] [3,12] ?_;refine B [8] fun _ u h=>?_;refine G6 u ?_;refine Ij [] [0] fun _ h=>?_;refine B [0,13,0] fun _ w h=>?_;refine G6 w ?_;exact Sj [0,13,0]
  intro H h;refine Ir [4] [3,7] fun _ h=>?_;refine S [1,3] ?_;refine J2 fun p=>?_;refine LR e1 hn () (fun l k v=>mZ N a1 a l k) h (fun d v=>[(160,.int (d:Int))]) (fun d v=>[]) [3,11,12,128,129,130,159] [3,12] [] nl nl [3,128,129,130] [3] ?_ ?_ ?_
  ·intro _ g d _ h _;rw[mZ] at h;exact Sj [3,2,4,0,20]
  ·intro _ g d _ M D h _ j _;rw[mZ] at h;refine S [3,2,4,0,1,2,6,3,2,8] ?_;refine P9 j ?_;refine B [] fun _ x h=>?_;refine G6 x ?_;refine B [] fun _ y h=>?_;refine G6 y ?_;refine I [4] ?_ ?_<;>intro _ h
   ·refine kd [] [] ?_;exact Sr [3,7]
   refine S [1] ?_;refine kd [3,11,12,128,129,130,159,160] [3,12] ?_;refine S [5] ?_;refine MF (AN (M7 j p) ?_);exact le () []
  rintro⟨⟩ h;refine S [5] ?_;refine MF (AN (M7 i o) ?_);exact le () []
 rintro⟨⟩ h;exact Sr [3,7]
end
end Go.Proofs.YtibjcppjfkamhaaGreatDoor
