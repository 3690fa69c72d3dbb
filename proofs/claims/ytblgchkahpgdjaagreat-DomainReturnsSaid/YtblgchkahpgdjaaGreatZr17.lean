/- What the claim rests on, part 17: the abstract machine, contracts of the functions, plain data. -/
import Derived.Test.YtblgchkahpgdjaaGreatZr16
set_option linter.unusedVariables false
set_option linter.unusedSimpArgs false
set_option linter.unusedSectionVars false
namespace Go.Proofs.YtblgchkahpgdjaaGreat
open Go.AM Go.Proofs.Tryz
set_option maxHeartbeats 8000000
set_option maxRecDepth 20000
abbrev lJ:List PV:=[.sc (.string ⟨#[]⟩),.sc (.slice none 0 0),.sc (.int .i64 0),.sc (.string ⟨#[]⟩),.sc (.string ⟨#[]⟩),.sc (.slice none 0 0),.sc (.slice none 0 0),.sc (.slice none 0 0),.sc (.slice none 0 0),.sc (.string ⟨#[]⟩),.sc (.string ⟨#[]⟩),.sc (.slice none 0 0),.sc (.slice none 0 0),.sc (.slice none 0 0),.sc (.slice none 0 0),.sc (.string ⟨#[]⟩),.sc (.string ⟨#[]⟩),.sc (.slice none 0 0),.sc (.slice none 0 0),.sc (.slice none 0 0),.sc (.slice none 0 0),.sc (.slice none 0 0),.sc (.slice none 0 0)]
structure HC(h:A0)(a:Du)(H:A0):Prop where
 grow:AC h H
 lt:h.next+1<H.next
 ores:H.obj h.next=some (.arr 23 [lJ])
 ex: ∃ P C0 C1 gop gna gar gpa gex gki kop kna kar kpa kex kki lop lna lar lpa lex lki,a.start= .mk gop gna gar gpa gex gki/\a.over= .mk kop kna kar kpa kex kki/\a.stop= .mk lop lna lar lpa lex lki/\H.obj (h.next+1)=some (.arr 23 [[A2 a.name,P,.sc (.int .i64 a.duration),A2 gop,A2 gna,.imm 1 (AN gar),.imm 2 (A7 gpa),.imm 5 (Ex.rows gex),.imm 6 (Fm.rows gki),A2 kop,A2 kna,.imm 1 (AN kar),.imm 2 (A7 kpa),.imm 5 (Ex.rows kex),.imm 6 (Fm.rows kki),A2 lop,A2 lna,.imm 1 (AN lar),.imm 2 (A7 lpa),.imm 5 (Ex.rows lex),.imm 6 (Fm.rows lki),C0,C1]])/\BR 2 (A7 a.params) P/\BR 15 (Al a.atStart) C0/\BR 15 (Al a.atStop) C1
theorem HC.tmp{h H:A0}{a:Du}(i:HC h a H)(o o':Ab):HC h a (Ge H o o'):=by
 obtain⟨g,lt,o1,P,C0,C1,gop,gna,gar,gpa,gex,gki,kop,kna,kar,kpa,kex,kki,lop,lna,lar,lpa,lex,lki,e0,e1,e2,eo,eP,eC0,eC1⟩:=i;exact⟨g.tmp o o',by rw[HL];omega,by rw[Gx (by omega)];exact o1,P,C0,C1,gop,gna,gar,gpa,gex,gki,kop,kna,kar,kpa,kex,kki,lop,lna,lar,lpa,lex,lki,e0,e1,e2,by rw[Gx (by omega)];exact eo,eP,eC0,eC1⟩
theorem HC.upd{h H:A0}{a a':Du}(i:HC h a H){P C0 C1:PV}{gop gna:ByteArray}{gar:List ByteArray}{gpa:List Pm}{gex:List Ex}{gki:List Fm}{kop kna:ByteArray}{kar:List ByteArray}{kpa:List Pm}{kex:List Ex}{kki:List Fm}{lop lna:ByteArray}{lar:List ByteArray}{lpa:List Pm}{lex:List Ex}{lki:List Fm}(e0:a'.start= .mk gop gna gar gpa gex gki)(e1:a'.over= .mk kop kna kar kpa kex kki)(e2:a'.stop= .mk lop lna lar lpa lex lki)(eP:BR 2 (A7 a'.params) P)(eC0:BR 15 (Al a'.atStart) C0)(eC1:BR 15 (Al a'.atStop) C1):
  HC h a' (H.set (h.next+1) (.arr 23 [[A2 a'.name,P,.sc (.int .i64 a'.duration),A2 gop,A2 gna,.imm 1 (AN gar),.imm 2 (A7 gpa),.imm 5 (Ex.rows gex),.imm 6 (Fm.rows gki),A2 kop,A2 kna,.imm 1 (AN kar),.imm 2 (A7 kpa),.imm 5 (Ex.rows kex),.imm 6 (Fm.rows kki),A2 lop,A2 lna,.imm 1 (AN lar),.imm 2 (A7 lpa),.imm 5 (Ex.rows lex),.imm 6 (Fm.rows lki),C0,C1]])):=by
 obtain⟨g,lt,o1,_⟩:=i;exact⟨g.set (by omega) _,lt,(Av (by omega)).trans o1,P,C0,C1,gop,gna,gar,gpa,gex,gki,kop,kna,kar,kpa,kex,kki,lop,lna,lar,lpa,lex,lki,e0,e1,e2,Cy,eP,eC0,eC1⟩
theorem HC.fin{h H:A0}{X:Ab}{a:Du}{F:Du × Int}{c:Int}{u:PV}(hF:F=(a,c))(hu:AO c=u)(g:AC h H){P C0 C1:PV}{gop gna:ByteArray}{gar:List ByteArray}{gpa:List Pm}{gex:List Ex}{gki:List Fm}{kop kna:ByteArray}{kar:List ByteArray}{kpa:List Pm}{kex:List Ex}{kki:List Fm}{lop lna:ByteArray}{lar:List ByteArray}{lpa:List Pm}{lex:List Ex}{lki:List Fm}(e0:a.start= .mk gop gna gar gpa gex gki)(e1:a.over= .mk kop kna kar kpa kex kki)(e2:a.stop= .mk lop lna lar lpa lex lki)(eP:BR 2 (A7 a.params) P)(eC0:BR 15 (Al a.atStart) C0)(eC1:BR 15 (Al a.atStop) C1):
  AF h.next (H.set h.next X) (.tup [.agg (FH F.1),AO F.2]) (.tup [.agg [A2 a.name,P,.sc (.int .i64 a.duration),A2 gop,A2 gna,.imm 1 (AN gar),.imm 2 (A7 gpa),.imm 5 (Ex.rows gex),.imm 6 (Fm.rows gki),A2 kop,A2 kna,.imm 1 (AN kar),.imm 2 (A7 kpa),.imm 5 (Ex.rows kex),.imm 6 (Fm.rows kki),A2 lop,A2 lna,.imm 1 (AN lar),.imm 2 (A7 lpa),.imm 5 (Ex.rows lex),.imm 6 (Fm.rows lki),C0,C1],u])/\AC h (H.set h.next X):=by
 subst hF;subst hu;refine⟨?_,g.set (AD _) _⟩;obtain⟨u,hu⟩:=Df c;rw[hu];obtain⟨an,ap,ac,astart,aover,astop,aatStart,aatStop⟩:=a;simp only at e0 e1 e2 eP eC0 eC1;subst e0;subst e1;subst e2;skip;simp only[FH,Fm.cells,C3,Au];have hP:=eP.frz (n:=h.next) (H.set h.next X) (Bu _ _);have hC0:=eC0.frz (n:=h.next) (H.set h.next X) (Gi _ _);have hC1:=eC1.frz (n:=h.next) (H.set h.next X) (Gi _ _);unfold AF;refine⟨_,rfl,?_⟩;unfold AL;refine⟨?_,by simp only[AL,AF,KH]⟩;unfold AF;refine⟨_,rfl,?_⟩;unfold AL;refine⟨BX,?_⟩;unfold AL;refine⟨hP,?_⟩;unfold AL;refine⟨BX,?_⟩;unfold AL;refine⟨BX,?_⟩;unfold AL;refine⟨BX,?_⟩;unfold AL;refine⟨B3 (DO _ _),?_⟩;unfold AL;refine⟨B3 (Bu _ _),?_⟩;unfold AL;refine⟨B3 (Dq _ _),?_⟩;unfold AL;refine⟨B3 (EO _ _),?_⟩;unfold AL;refine⟨BX,?_⟩;unfold AL;refine⟨BX,?_⟩;unfold AL;refine⟨B3 (DO _ _),?_⟩;unfold AL;refine⟨B3 (Bu _ _),?_⟩;unfold AL;refine⟨B3 (Dq _ _),?_⟩;unfold AL;refine⟨B3 (EO _ _),?_⟩;unfold AL;refine⟨BX,?_⟩;unfold AL;refine⟨BX,?_⟩;unfold AL;refine⟨B3 (DO _ _),?_⟩;unfold AL;refine⟨B3 (Bu _ _),?_⟩;unfold AL;refine⟨B3 (Dq _ _),?_⟩;unfold AL;refine⟨B3 (EO _ _),?_⟩;unfold AL;refine⟨hC0,?_⟩;unfold AL;refine⟨hC1,?_⟩;simp only[AL]
def Su(lc:Int)(r:Du × Int):Du × Int:=bif r.2==0 then(r.1,lc)else r
theorem lK(a:Du)(kw:ByteArray)(v:Sx)(l:List (ByteArray × Sx)):H7 a ((kw,v)::l)=bif (DE a kw v).2==0 then H7 (DE a kw v).1 l else DE a kw v:=rfl
theorem lL{x:Sx}(hok:x.ok)(hsm:x.small)(h:A0):A6 prog 122 [.agg x.cells] h λr h'=>r= .tup [.agg (FH (H8 x).1),AO (H8 x).2]/\h'=h:=by
 refine A6.frz Ty.Ua ?_;have hH:=λh:A0=>Xc hok h;have hlen:= @Xg x;generalize hF:H8 x=F;unfold H8 at hF;generalize De x=HD at hF hH hlen;obtain⟨na,hc⟩:=HD;simp only at hF hH hlen;obtain⟨kind,value,line,col,text,kids⟩:=x;simp only[CA]at hF hlen;simp only[Sx.cells]at hH⊢;simp only[Sx.ok]at hok;simp only[Sx.small]at hsm;have hko:=Sx.oks_iff.1 hok.2.2.2.2;have hkm:=Sx.smalls_iff.1 hsm.2;have hkl:=hsm.1;have hrl:=Sx.rows_len kids
 clear hok hsm;have hal:=λh:A0=>Ks (h:=h);simp only[Bv,Fm.cells]at hal;generalize hR:Sx.rows kids=R at hH hrl⊢;refine AE func122 ntmps122 results122 Ty.Ua ?_;refine wt A3 ?_;refine uU A3 (hal _) ?_;refine wt A3 ?_;refine uU A3 (hal _) ?_;refine wt A3 ?_;refine uU A3 (hal _) ?_;refine xG 2 @B2 ?_;refine⟨?_⟩;refine Cj (λS H=>S 1= .cptr [.sc (.int .i64 kind),.sc (.int .i64 value),.sc (.int .i64 line),.sc (.int .i64 col),A2 text,.imm 6 R]/\S 2= .ptr h.next 0 0/\S 4= .ptr (h.next+1) 0 0/\HC h (DI ⟨#[]⟩) H) ?_ ?_
 ·refine ⟨sq A3,sq A3,sq A3,(((AC.refl h).new _).new _).set (by omega) _,by simp only[A0.set,A0.new];omega,?_,_,_,_,_,_,_,_,_,_,_,_,_,_,_,_,_,_,_,_,_,_,rfl,rfl,rfl,Cy,.inr ⟨rfl,rfl⟩,.inr ⟨rfl,rfl⟩,.inr ⟨rfl,rfl⟩⟩;rw[Av (by omega),DS (by simp only[A0.new];omega)];simp only[A0.new,AH]
 clear hal;rintro S H ⟨s1,s2,s4,hI⟩;have hS:=λ{P C0 C1:PV}{gop gna:ByteArray}{gar:List ByteArray}{gpa:List Pm}{gex:List Ex}{gki:List Fm}{kop kna:ByteArray}{kar:List ByteArray}{kpa:List Pm}{kex:List Ex}{kki:List Fm}{lop lna:ByteArray}{lar:List ByteArray}{lpa:List Pm}{lex:List Ex}{lki:List Fm}(e0:(DI na).start= .mk gop gna gar gpa gex gki)(e1:(DI na).over= .mk kop kna kar kpa kex kki)(e2:(DI na).stop= .mk lop lna lar lpa lex lki)(eP:BR 2 (A7 (DI na).params) P)(eC0:BR 15 (Al (DI na).atStart) C0)(eC1:BR 15 (Al (DI na).atStop) C1)=>hI.upd (a':=DI na) e0 e1 e2 eP eC0 eC1;obtain⟨g,lt,o1,P,C0,C1,gop,gna,gar,gpa,gex,gki,kop,kna,kar,kpa,kex,kki,lop,lna,lar,lpa,lex,lki,e0,e1,e2,eo,eP,eC0,eC1⟩:=hI;have hS:=hS (by exact e0) (by exact e1) (by exact e2) eP eC0 eC1;simp only[DI]at eo;have cP:=eP.cell;have cC0:=eC0.cell;have cC1:=eC1.cell;have n1:(h.next=h.next+1)=False:=B4 (by omega);cases hcc:hc==0 with
 |false=>
  have er:AO hc=Aj hc:=by simp only[AO,hcc,AI]
  rw[hcc]at hF;simp only[AI]at hF;rw[er]at hH;simp only[Aj]at hH;refine wt (AV s1 s2 s4) ?_;replace zz:=Aa s1 s2 s4 eo;refine uU zz (hH _) ?_;replace zz:=BO s2 s4 eo o1 n1 cP cC0 cC1;refine wt zz ?_;exact HC.fin (a:=DI na) hF.symm er (g.set (by omega) _) (by exact e0) (by exact e1) (by exact e2) eP eC0 eC1
 |true=>
  have er:AO hc= .sc .nilIface:=by simp only[AO,hcc,AB]
  rw[hcc]at hF;simp only[AB]at hF;rw[er]at hH;obtain⟨ka,kn,rest,rfl⟩:=hlen hcc;simp only[GW,CB]at hF;have hpt:=λh:A0=>Xf (l:=rest) (kws:=IU) (by simp only[Aw]at hkl;omega) (by decide) h;have hpm:=Sq rest IU;have hpl:=Sr rest IU;have q2:(2:Int)<=(R.length:Int):=by rw[hrl];simp only[Aw];omega
  have ht:List.take ((R.length:Int)-2).toNat (List.drop 2 R)=Sx.rows rest:=by
   rw[← hR];simp only[Sx.rows,GW,CB,Aw];rw[DQ (by omega)]
  generalize CE rest IU=PS at hF hpt hpm hpl;obtain⟨ps,lc⟩:=PS;simp only at hF hpt hpm hpl;change Su lc (H7 (DI na) ps)=F at hF;obtain⟨lu,hlu⟩:=Df lc;rw[hlu]at hpt;have hpl2:ps.length<=1048576:=by simp only[Aw]at hkl;omega
  have hrlN:(AN (ps.map (·.1))).length=ps.length:=by rw[Gb,E4]
  have hrlV:(Sx.rows (ps.map (·.2))).length=ps.length:=by rw[Sx.rows_len,E4]
  have hvo: ∀ kv∈ps,kv.2.ok/\kv.2.small:=λkv hkv=>⟨hko _ (by simp[hpm kv hkv]),hkm _ (by simp[hpm kv hkv])⟩
  clear hpm hpl hko hkm hkl hR hrl hlen;refine wt (AV s1 s2 s4) ?_;replace zz:=Aa s1 s2 s4 eo;refine uU zz (hH _) ?_;replace zz:=BO s1 s2 s4 eo q2 ht @CU @CV;refine wt zz ?_;replace zz:=As s1 s2 s4 q2 ht;refine uU zz (hpt _) ?_;refine xG 7 (AV s1 s2 s4) ?_;refine⟨?_⟩;refine Cj (λS H=>S 2= .ptr h.next 0 0/\S 4= .ptr (h.next+1) 0 0/\S 6= .imm 1 (AN (ps.map (·.1)))/\S 7= .imm 6 (Sx.rows (ps.map (·.2)))/\S 8= .sc lu/\HC h (DI na) H) ⟨sq s2,sq s4,sq A3,sq A3,sq A3,hS⟩ ?_
  clear s1 s2 s4 hS hH hpt ht q2;rintro S H ⟨s2,s4,s6,s7,s8,hI⟩;refine wt (uu s7 hrlV) ?_;refine Cd (λm S H=>S 2= .ptr h.next 0 0/\S 4= .ptr (h.next+1) 0 0/\S 6= .imm 1 (AN (ps.map (·.1)))/\S 34= .imm 6 (Sx.rows (ps.map (·.2)))/\S 8= .sc lu/\S 35= .sc (.int .i64 ps.length)/\ ∃ (k:Nat)(a:Du),S 36= .sc (.int .i64 k)/\k<=ps.length/\m=ps.length-k/\HC h a H/\F=Su lc (H7 a (ps.drop k))) ps.length ?_ ?_
  ·simp only[Ty.w,simprocAttr,s2,s4,s6,s8];exact⟨0,_,rfl,Bx _,rfl,hI,by rw[CB];exact hF.symm⟩
  try clear zz
  clear s2 s4 s6 s7 s8 hI hF S H;rintro m S H ⟨s2,s4,s6,sV,s8,sL,k,a,sI,hk,rfl,hI,hF⟩;by_cases hlt:k<ps.length
  ·have hd:decide ((k:Int)<(ps.length:Int))=true:=(by simp;omega);have w7:IntKind.i64.wrap ((k:Int)+1)=((k+1:Nat):Int):=(by rw[Br (by omega) (by omega)];omega);obtain⟨⟨kw,v⟩,hx⟩: ∃ x,ps[k]? =some x:=⟨_,AU hlt⟩;have hrk:(AN (ps.map (·.1)))[k]? =some [A2 kw]:=KW (by rw[IY,hx];try rfl);have hrv:(Sx.rows (ps.map (·.2)))[k]? =some v.cells:=Sx.rows_get (by rw[IY,hx];try rfl);obtain⟨hvok,hvsm⟩:=hvo _ (C7 hx);simp only at hvok hvsm;rw[Cm hx,lK]at hF;clear hx;obtain⟨vk,vv,vl,vc,vt,vs⟩:=v;simp only[Sx.cells]at hrv;replace zz:=BK s2 s4 s6 s8 sV sL sI hd hrv;refine xH 10 zz ?_;refine⟨?_⟩;refine Gy 10 rfl (sq A3) (λn H=>FZ n H (.mk vk vv vl vc vt vs)) ?_;refine Cj (λS H=>S 2= .ptr h.next 0 0/\S 4= .ptr (h.next+1) 0 0/\S 6= .imm 1 (AN (ps.map (·.1)))/\S 34= .imm 6 (Sx.rows (ps.map (·.2)))/\S 8= .sc lu/\S 35= .sc (.int .i64 ps.length)/\S 36= .sc (.int .i64 k)/\S 9= .sc (.int .i64 k)/\S 10= .cptr [.sc (.int .i64 vk),.sc (.int .i64 vv),.sc (.int .i64 vl),.sc (.int .i64 vc),A2 vt,.imm 6 (Sx.rows vs)]/\HC h a H) ⟨sq s2,sq s4,sq s6,sq sV,sq s8,sq sL,sq sI,sq A3,by simp only[Ty.w,simprocAttr,Sx.cells],hI.tmp _ _⟩ ?_;clear s2 s4 s6 s8 sV sL sI hd hrv hI;rintro S H ⟨s2,s4,s6,sV,s8,sL,sI,s9,s10,hI⟩;refine DA (λS H=>S 2= .ptr h.next 0 0/\S 4= .ptr (h.next+1) 0 0/\S 6= .imm 1 (AN (ps.map (·.1)))/\S 34= .imm 6 (Sx.rows (ps.map (·.2)))/\S 8= .sc lu/\S 35= .sc (.int .i64 ps.length)/\S 36= .sc (.int .i64 k)/\S 5=AO (DE a kw (.mk vk vv vl vc vt vs)).2/\HC h (DE a kw (.mk vk vv vl vc vt vs)).1 H) ?_ ?_
   ·clear hF hvo;have b0:(0:Int)<=(k:Int):=(by omega);have T1:(k:Int).toNat=k:=MJ k;have bl:((k:Int)<(ps.length:Int))=True:=Db (by omega);cases q0:(kw.data.toList==(#[58,112,97,114,97,109,101,116,101,114,115]:Array UInt8).toList)with
    |true=>
     have e:DE a kw (.mk vk vv vl vc vt vs)=({a with params:=(G9 (.mk vk vv vl vc vt vs)).1},(G9 (.mk vk vv vl vc vt vs)).2):=(by unfold DE;simp only[show A1 kw Cb=true from q0,AB,AI]);rw[e];have hc1:=λh:A0=>Xb (x:=(.mk vk vv vl vc vt vs)) hvok hvsm h;generalize G9 (.mk vk vv vl vc vt vs)=L at hc1;obtain⟨l,c⟩:=L;obtain⟨u,hu⟩:=Df c;simp only[Sx.cells,hu]at hc1⊢;have hS:=λ{P C0 C1:PV}{gop gna:ByteArray}{gar:List ByteArray}{gpa:List Pm}{gex:List Ex}{gki:List Fm}{kop kna:ByteArray}{kar:List ByteArray}{kpa:List Pm}{kex:List Ex}{kki:List Fm}{lop lna:ByteArray}{lar:List ByteArray}{lpa:List Pm}{lex:List Ex}{lki:List Fm}(e0:({a with params:=l}).start= .mk gop gna gar gpa gex gki)(e1:({a with params:=l}).over= .mk kop kna kar kpa kex kki)(e2:({a with params:=l}).stop= .mk lop lna lar lpa lex lki)(eP:BR 2 (A7 ({a with params:=l}).params) P)(eC0:BR 15 (Al ({a with params:=l}).atStart) C0)(eC1:BR 15 (Al ({a with params:=l}).atStop) C1)=>hI.upd (a':={a with params:=l}) e0 e1 e2 eP eC0 eC1;obtain⟨g,lt,o1,P,C0,C1,gop,gna,gar,gpa,gex,gki,kop,kna,kar,kpa,kex,kki,lop,lna,lar,lpa,lex,lki,e0,e1,e2,eo,eP,eC0,eC1⟩:=hI;have hS:=hS (by exact e0) (by exact e1) (by exact e2) (.inl rfl) eC0 eC1;(repeat'(first|refine cK ?_|(refine nK ?_;try exact zI)|refine Ae λK hK=>?_|(refine Ca ?_)|((first|refine BZ ?_|refine FD (λK hK=>?_));simp only[Ty.w,simprocAttr,s2,s4,s6,s9,s10,hrk,b0,T1,bl,hrlN,q0])|(refine hK _ _ ?_;clear hK;(try simp only[Ao,simprocAttr]))));replace zz:=Ag s2 s4 s6 s8 s9 s10 eo;refine uU zz (hc1 _) ?_;replace zz:=BO s2 s4 s6 s8 sV sL sI eo;(repeat'(first|refine cK ?_|refine nK ?_|(refine uN hK ?_;clear hK)|apply zI));exact⟨sq s2,sq s4,sq s6,sq sV,sq s8,sq sL,sq sI,sq A3,hS⟩
    |false=>
     cases q1:(kw.data.toList==(#[58,100,117,114,97,116,105,111,110]:Array UInt8).toList)with
     |true=>
      have e:DE a kw (.mk vk vv vl vc vt vs)=({a with duration:=(F8 (.mk vk vv vl vc vt vs)).1},(F8 (.mk vk vv vl vc vt vs)).2):=(by unfold DE;simp only[show A1 kw Cb=false from q0,show A1 kw EX=true from q1,AB,AI]);rw[e];have hc1:=λh:A0=>Xa (x:=(.mk vk vv vl vc vt vs)) h;generalize F8 (.mk vk vv vl vc vt vs)=L at hc1;obtain⟨n,c⟩:=L;obtain⟨u,hu⟩:=Df c;simp only[Sx.cells,hu]at hc1⊢;have hS:=λ{P C0 C1:PV}{gop gna:ByteArray}{gar:List ByteArray}{gpa:List Pm}{gex:List Ex}{gki:List Fm}{kop kna:ByteArray}{kar:List ByteArray}{kpa:List Pm}{kex:List Ex}{kki:List Fm}{lop lna:ByteArray}{lar:List ByteArray}{lpa:List Pm}{lex:List Ex}{lki:List Fm}(e0:({a with duration:=n}).start= .mk gop gna gar gpa gex gki)(e1:({a with duration:=n}).over= .mk kop kna kar kpa kex kki)(e2:({a with duration:=n}).stop= .mk lop lna lar lpa lex lki)(eP:BR 2 (A7 ({a with duration:=n}).params) P)(eC0:BR 15 (Al ({a with duration:=n}).atStart) C0)(eC1:BR 15 (Al ({a with duration:=n}).atStop) C1)=>hI.upd (a':={a with duration:=n}) e0 e1 e2 eP eC0 eC1;obtain⟨g,lt,o1,P,C0,C1,gop,gna,gar,gpa,gex,gki,kop,kna,kar,kpa,kex,kki,lop,lna,lar,lpa,lex,lki,e0,e1,e2,eo,eP,eC0,eC1⟩:=hI;have hS:=hS (by exact e0) (by exact e1) (by exact e2) eP eC0 eC1;(repeat'(first|refine cK ?_|(refine nK ?_;try exact zI)|refine Ae λK hK=>?_|(refine Ca ?_)|((first|refine BZ ?_|refine FD (λK hK=>?_));simp only[Ty.w,simprocAttr,s2,s4,s6,s9,s10,hrk,b0,T1,bl,hrlN,q0,q1])|(refine hK _ _ ?_;clear hK;(try simp only[Ao,simprocAttr]))));replace zz:=Ag s2 s4 s6 s8 s9 s10 eo;refine uU zz (hc1 _) ?_;replace zz:=BO s2 s4 s6 s8 sV sL sI eo;(repeat'(first|refine cK ?_|refine nK ?_|(refine uN hK ?_;clear hK)|apply zI));exact⟨sq s2,sq s4,sq s6,sq sV,sq s8,sq sL,sq sI,sq A3,hS⟩
     |false=>
      cases q2:(kw.data.toList==(#[58,115,116,97,114,116]:Array UInt8).toList)with
      |true=>
       have e:DE a kw (.mk vk vv vl vc vt vs)=({a with start:=(Cg (.mk vk vv vl vc vt vs)).1},(Cg (.mk vk vv vl vc vt vs)).2):=(by unfold DE;simp only[show A1 kw Cb=false from q0,show A1 kw EX=false from q1,show A1 kw Eo=true from q2,AB,AI]);rw[e];have hc1:=λh:A0=>OL (x:=(.mk vk vv vl vc vt vs)) hvok h;generalize Cg (.mk vk vv vl vc vt vs)=L at hc1;obtain⟨⟨fop,fna,far,fpa,fex,fki⟩,c⟩:=L;obtain⟨u,hu⟩:=Df c;simp only[Sx.cells,Fm.cells,hu]at hc1⊢;have hS:=λ{P C0 C1:PV}{gop gna:ByteArray}{gar:List ByteArray}{gpa:List Pm}{gex:List Ex}{gki:List Fm}{kop kna:ByteArray}{kar:List ByteArray}{kpa:List Pm}{kex:List Ex}{kki:List Fm}{lop lna:ByteArray}{lar:List ByteArray}{lpa:List Pm}{lex:List Ex}{lki:List Fm}(e0:({a with start:=Fm.mk fop fna far fpa fex fki}).start= .mk gop gna gar gpa gex gki)(e1:({a with start:=Fm.mk fop fna far fpa fex fki}).over= .mk kop kna kar kpa kex kki)(e2:({a with start:=Fm.mk fop fna far fpa fex fki}).stop= .mk lop lna lar lpa lex lki)(eP:BR 2 (A7 ({a with start:=Fm.mk fop fna far fpa fex fki}).params) P)(eC0:BR 15 (Al ({a with start:=Fm.mk fop fna far fpa fex fki}).atStart) C0)(eC1:BR 15 (Al ({a with start:=Fm.mk fop fna far fpa fex fki}).atStop) C1)=>hI.upd (a':={a with start:=Fm.mk fop fna far fpa fex fki}) e0 e1 e2 eP eC0 eC1;obtain⟨g,lt,o1,P,C0,C1,gop,gna,gar,gpa,gex,gki,kop,kna,kar,kpa,kex,kki,lop,lna,lar,lpa,lex,lki,e0,e1,e2,eo,eP,eC0,eC1⟩:=hI;have hS:=hS rfl (by exact e1) (by exact e2) eP eC0 eC1;(repeat'(first|refine cK ?_|(refine nK ?_;try exact zI)|refine Ae λK hK=>?_|(refine Ca ?_)|((first|refine BZ ?_|refine FD (λK hK=>?_));simp only[Ty.w,simprocAttr,s2,s4,s6,s9,s10,hrk,b0,T1,bl,hrlN,q0,q1,q2])|(refine hK _ _ ?_;clear hK;(try simp only[Ao,simprocAttr]))));replace zz:=Ag s2 s4 s6 s8 s9 s10 eo;refine uU zz (hc1 _) ?_;replace zz:=BO s2 s4 s6 s8 sV sL sI eo;(repeat'(first|refine cK ?_|refine nK ?_|(refine uN hK ?_;clear hK)|apply zI));exact⟨sq s2,sq s4,sq s6,sq sV,sq s8,sq sL,sq sI,sq A3,hS⟩
      |false=>
       cases q3:(kw.data.toList==(#[58,111,118,101,114]:Array UInt8).toList)with
       |true=>
        have e:DE a kw (.mk vk vv vl vc vt vs)=({a with over:=(Cg (.mk vk vv vl vc vt vs)).1},(Cg (.mk vk vv vl vc vt vs)).2):=(by unfold DE;simp only[show A1 kw Cb=false from q0,show A1 kw EX=false from q1,show A1 kw Eo=false from q2,show A1 kw F6=true from q3,AB,AI]);rw[e];have hc1:=λh:A0=>OL (x:=(.mk vk vv vl vc vt vs)) hvok h;generalize Cg (.mk vk vv vl vc vt vs)=L at hc1;obtain⟨⟨fop,fna,far,fpa,fex,fki⟩,c⟩:=L;obtain⟨u,hu⟩:=Df c;simp only[Sx.cells,Fm.cells,hu]at hc1⊢;have hS:=λ{P C0 C1:PV}{gop gna:ByteArray}{gar:List ByteArray}{gpa:List Pm}{gex:List Ex}{gki:List Fm}{kop kna:ByteArray}{kar:List ByteArray}{kpa:List Pm}{kex:List Ex}{kki:List Fm}{lop lna:ByteArray}{lar:List ByteArray}{lpa:List Pm}{lex:List Ex}{lki:List Fm}(e0:({a with over:=Fm.mk fop fna far fpa fex fki}).start= .mk gop gna gar gpa gex gki)(e1:({a with over:=Fm.mk fop fna far fpa fex fki}).over= .mk kop kna kar kpa kex kki)(e2:({a with over:=Fm.mk fop fna far fpa fex fki}).stop= .mk lop lna lar lpa lex lki)(eP:BR 2 (A7 ({a with over:=Fm.mk fop fna far fpa fex fki}).params) P)(eC0:BR 15 (Al ({a with over:=Fm.mk fop fna far fpa fex fki}).atStart) C0)(eC1:BR 15 (Al ({a with over:=Fm.mk fop fna far fpa fex fki}).atStop) C1)=>hI.upd (a':={a with over:=Fm.mk fop fna far fpa fex fki}) e0 e1 e2 eP eC0 eC1;obtain⟨g,lt,o1,P,C0,C1,gop,gna,gar,gpa,gex,gki,kop,kna,kar,kpa,kex,kki,lop,lna,lar,lpa,lex,lki,e0,e1,e2,eo,eP,eC0,eC1⟩:=hI;have hS:=hS (by exact e0) rfl (by exact e2) eP eC0 eC1;(repeat'(first|refine cK ?_|(refine nK ?_;try exact zI)|refine Ae λK hK=>?_|(refine Ca ?_)|((first|refine BZ ?_|refine FD (λK hK=>?_));simp only[Ty.w,simprocAttr,s2,s4,s6,s9,s10,hrk,b0,T1,bl,hrlN,q0,q1,q2,q3])|(refine hK _ _ ?_;clear hK;(try simp only[Ao,simprocAttr]))));replace zz:=Ag s2 s4 s6 s8 s9 s10 eo;refine uU zz (hc1 _) ?_;replace zz:=BO s2 s4 s6 s8 sV sL sI eo;(repeat'(first|refine cK ?_|refine nK ?_|(refine uN hK ?_;clear hK)|apply zI));exact⟨sq s2,sq s4,sq s6,sq sV,sq s8,sq sL,sq sI,sq A3,hS⟩
       |false=>
        cases q4:(kw.data.toList==(#[58,101,110,100]:Array UInt8).toList)with
        |true=>
         have e:DE a kw (.mk vk vv vl vc vt vs)=({a with stop:=(Cg (.mk vk vv vl vc vt vs)).1},(Cg (.mk vk vv vl vc vt vs)).2):=(by unfold DE;simp only[show A1 kw Cb=false from q0,show A1 kw EX=false from q1,show A1 kw Eo=false from q2,show A1 kw F6=false from q3,show A1 kw FL=true from q4,AB,AI]);rw[e];have hc1:=λh:A0=>OL (x:=(.mk vk vv vl vc vt vs)) hvok h;generalize Cg (.mk vk vv vl vc vt vs)=L at hc1;obtain⟨⟨fop,fna,far,fpa,fex,fki⟩,c⟩:=L;obtain⟨u,hu⟩:=Df c;simp only[Sx.cells,Fm.cells,hu]at hc1⊢;have hS:=λ{P C0 C1:PV}{gop gna:ByteArray}{gar:List ByteArray}{gpa:List Pm}{gex:List Ex}{gki:List Fm}{kop kna:ByteArray}{kar:List ByteArray}{kpa:List Pm}{kex:List Ex}{kki:List Fm}{lop lna:ByteArray}{lar:List ByteArray}{lpa:List Pm}{lex:List Ex}{lki:List Fm}(e0:({a with stop:=Fm.mk fop fna far fpa fex fki}).start= .mk gop gna gar gpa gex gki)(e1:({a with stop:=Fm.mk fop fna far fpa fex fki}).over= .mk kop kna kar kpa kex kki)(e2:({a with stop:=Fm.mk fop fna far fpa fex fki}).stop= .mk lop lna lar lpa lex lki)(eP:BR 2 (A7 ({a with stop:=Fm.mk fop fna far fpa fex fki}).params) P)(eC0:BR 15 (Al ({a with stop:=Fm.mk fop fna far fpa fex fki}).atStart) C0)(eC1:BR 15 (Al ({a with stop:=Fm.mk fop fna far fpa fex fki}).atStop) C1)=>hI.upd (a':={a with stop:=Fm.mk fop fna far fpa fex fki}) e0 e1 e2 eP eC0 eC1;obtain⟨g,lt,o1,P,C0,C1,gop,gna,gar,gpa,gex,gki,kop,kna,kar,kpa,kex,kki,lop,lna,lar,lpa,lex,lki,e0,e1,e2,eo,eP,eC0,eC1⟩:=hI;have hS:=hS (by exact e0) (by exact e1) rfl eP eC0 eC1;(repeat'(first|refine cK ?_|(refine nK ?_;try exact zI)|refine Ae λK hK=>?_|(refine Ca ?_)|((first|refine BZ ?_|refine FD (λK hK=>?_));simp only[Ty.w,simprocAttr,s2,s4,s6,s9,s10,hrk,b0,T1,bl,hrlN,q0,q1,q2,q3,q4])|(refine hK _ _ ?_;clear hK;(try simp only[Ao,simprocAttr]))));replace zz:=Ag s2 s4 s6 s8 s9 s10 eo;refine uU zz (hc1 _) ?_;replace zz:=BO s2 s4 s6 s8 sV sL sI eo;(repeat'(first|refine cK ?_|refine nK ?_|(refine uN hK ?_;clear hK)|apply zI));exact⟨sq s2,sq s4,sq s6,sq sV,sq s8,sq sL,sq sI,sq A3,hS⟩
        |false=>
         cases q5:(kw.data.toList==(#[58,97,116,45,115,116,97,114,116]:Array UInt8).toList)with
         |true=>
          have e:DE a kw (.mk vk vv vl vc vt vs)=({a with atStart:=(EW (.mk vk vv vl vc vt vs)).1},(EW (.mk vk vv vl vc vt vs)).2):=(by unfold DE;simp only[show A1 kw Cb=false from q0,show A1 kw EX=false from q1,show A1 kw Eo=false from q2,show A1 kw F6=false from q3,show A1 kw FL=false from q4,show A1 kw Fg=true from q5,AB,AI]);rw[e];have hc1:=λh:A0=>Sh (x:=(.mk vk vv vl vc vt vs)) hvok h;generalize EW (.mk vk vv vl vc vt vs)=L at hc1;obtain⟨l,c⟩:=L;obtain⟨u,hu⟩:=Df c;simp only[Sx.cells,hu]at hc1⊢;have hS:=λ{P C0 C1:PV}{gop gna:ByteArray}{gar:List ByteArray}{gpa:List Pm}{gex:List Ex}{gki:List Fm}{kop kna:ByteArray}{kar:List ByteArray}{kpa:List Pm}{kex:List Ex}{kki:List Fm}{lop lna:ByteArray}{lar:List ByteArray}{lpa:List Pm}{lex:List Ex}{lki:List Fm}(e0:({a with atStart:=l}).start= .mk gop gna gar gpa gex gki)(e1:({a with atStart:=l}).over= .mk kop kna kar kpa kex kki)(e2:({a with atStart:=l}).stop= .mk lop lna lar lpa lex lki)(eP:BR 2 (A7 ({a with atStart:=l}).params) P)(eC0:BR 15 (Al ({a with atStart:=l}).atStart) C0)(eC1:BR 15 (Al ({a with atStart:=l}).atStop) C1)=>hI.upd (a':={a with atStart:=l}) e0 e1 e2 eP eC0 eC1;obtain⟨g,lt,o1,P,C0,C1,gop,gna,gar,gpa,gex,gki,kop,kna,kar,kpa,kex,kki,lop,lna,lar,lpa,lex,lki,e0,e1,e2,eo,eP,eC0,eC1⟩:=hI;have hS:=hS (by exact e0) (by exact e1) (by exact e2) eP (.inl rfl) eC1;(repeat'(first|refine cK ?_|(refine nK ?_;try exact zI)|refine Ae λK hK=>?_|(refine Ca ?_)|((first|refine BZ ?_|refine FD (λK hK=>?_));simp only[Ty.w,simprocAttr,s2,s4,s6,s9,s10,hrk,b0,T1,bl,hrlN,q0,q1,q2,q3,q4,q5])|(refine hK _ _ ?_;clear hK;(try simp only[Ao,simprocAttr]))));replace zz:=Ag s2 s4 s6 s8 s9 s10 eo;refine uU zz (hc1 _) ?_;replace zz:=BO s2 s4 s6 s8 sV sL sI eo;(repeat'(first|refine cK ?_|refine nK ?_|(refine uN hK ?_;clear hK)|apply zI));exact⟨sq s2,sq s4,sq s6,sq sV,sq s8,sq sL,sq sI,sq A3,hS⟩
         |false=>
          have e:DE a kw (.mk vk vv vl vc vt vs)=({a with atStop:=(EW (.mk vk vv vl vc vt vs)).1},(EW (.mk vk vv vl vc vt vs)).2):=(by unfold DE;simp only[show A1 kw Cb=false from q0,show A1 kw EX=false from q1,show A1 kw Eo=false from q2,show A1 kw F6=false from q3,show A1 kw FL=false from q4,show A1 kw Fg=false from q5,AB,AI]);rw[e];have hc1:=λh:A0=>Sh (x:=(.mk vk vv vl vc vt vs)) hvok h;generalize EW (.mk vk vv vl vc vt vs)=L at hc1;obtain⟨l,c⟩:=L;obtain⟨u,hu⟩:=Df c;simp only[Sx.cells,hu]at hc1⊢;have hS:=λ{P C0 C1:PV}{gop gna:ByteArray}{gar:List ByteArray}{gpa:List Pm}{gex:List Ex}{gki:List Fm}{kop kna:ByteArray}{kar:List ByteArray}{kpa:List Pm}{kex:List Ex}{kki:List Fm}{lop lna:ByteArray}{lar:List ByteArray}{lpa:List Pm}{lex:List Ex}{lki:List Fm}(e0:({a with atStop:=l}).start= .mk gop gna gar gpa gex gki)(e1:({a with atStop:=l}).over= .mk kop kna kar kpa kex kki)(e2:({a with atStop:=l}).stop= .mk lop lna lar lpa lex lki)(eP:BR 2 (A7 ({a with atStop:=l}).params) P)(eC0:BR 15 (Al ({a with atStop:=l}).atStart) C0)(eC1:BR 15 (Al ({a with atStop:=l}).atStop) C1)=>hI.upd (a':={a with atStop:=l}) e0 e1 e2 eP eC0 eC1;obtain⟨g,lt,o1,P,C0,C1,gop,gna,gar,gpa,gex,gki,kop,kna,kar,kpa,kex,kki,lop,lna,lar,lpa,lex,lki,e0,e1,e2,eo,eP,eC0,eC1⟩:=hI;have hS:=hS (by exact e0) (by exact e1) (by exact e2) eP eC0 (.inl rfl);(repeat'(first|refine cK ?_|(refine nK ?_;try exact zI)|refine Ae λK hK=>?_|(refine Ca ?_)|((first|refine BZ ?_|refine FD (λK hK=>?_));simp only[Ty.w,simprocAttr,s2,s4,s6,s9,s10,hrk,b0,T1,bl,hrlN,q0,q1,q2,q3,q4,q5])|(refine hK _ _ ?_;clear hK;(try simp only[Ao,simprocAttr]))));replace zz:=Ag s2 s4 s6 s8 s9 s10 eo;refine uU zz (hc1 _) ?_;replace zz:=BO s2 s4 s6 s8 sV sL sI eo;(repeat'(first|refine cK ?_|refine nK ?_|(refine uN hK ?_;clear hK)|apply zI));exact⟨sq s2,sq s4,sq s6,sq sV,sq s8,sq sL,sq sI,sq A3,hS⟩
   ·generalize DE a kw (.mk vk vv vl vc vt vs)=A at hF;obtain⟨a',c⟩:=A;simp only at hF;(try clear zz);clear s2 s4 s6 sV s8 sL sI s9 s10 hI hrk hvok hvsm S H;rintro S H ⟨s2,s4,s6,sV,s8,sL,sI,s5,hI⟩;simp only at s5 hI;cases hcc2:c==0 with
    |false=>
     have er:AO c=Aj c:=(by simp only[AO,hcc2,AI]);rw[hcc2]at hF;simp only[AI]at hF;have hF2:F=(a',c):=(by rw[hF];unfold Su;simp only[hcc2,AI]);rw[er]at s5;simp only[Aj]at s5;obtain⟨g,lt,o1,P,C0,C1,gop,gna,gar,gpa,gex,gki,kop,kna,kar,kpa,kex,kki,lop,lna,lar,lpa,lex,lki,e0,e1,e2,eo,eP,eC0,eC1⟩:=hI;have cP:=eP.cell;have cC0:=eC0.cell;have cC1:=eC1.cell;have n1:(h.next=h.next+1)=False:=B4 (by omega);replace zz:=BK s2 s4 s5 eo o1 n1 cP cC0 cC1;refine wt zz ?_;exact HC.fin hF2 er g (by exact e0) (by exact e1) (by exact e2) eP eC0 eC1
    |true=>
     have er:AO c= .sc .nilIface:=(by simp only[AO,hcc2,AB]);rw[hcc2]at hF;simp only[AB]at hF;rw[er]at s5;replace zz:=BK s2 s4 s5 s6 s8 sV sL sI w7;refine wt zz ?_;exact⟨ps.length-(k+1),by omega,k+1,a',rfl,by omega,rfl,hI,hF⟩
  ·have hd:decide ((k:Int)<(ps.length:Int))=false:=(by simp;omega);rw[D3 (by omega)]at hF;have hF2:F=(a,lc):=(by rw[hF];try rfl);obtain⟨g,lt,o1,P,C0,C1,gop,gna,gar,gpa,gex,gki,kop,kna,kar,kpa,kex,kki,lop,lna,lar,lpa,lex,lki,e0,e1,e2,eo,eP,eC0,eC1⟩:=hI;have cP:=eP.cell;have cC0:=eC0.cell;have cC1:=eC1.cell;have n1:(h.next=h.next+1)=False:=B4 (by omega);replace zz:=AY s2 s4 s8 sL sI hd eo o1 n1 cP cC0 cC1;refine wt zz ?_;exact HC.fin hF2 hlu g (by exact e0) (by exact e1) (by exact e2) eP eC0 eC1
structure Fh(h0:A0)(id:Nat)(h:A0):Prop where
 le:h0.next<=h.next
 old: ∀ j,j<h0.next->j≠id->h.obj j=h0.obj j
theorem Fh.set{h0 h:A0}{id:Nat}(g:Fh h0 id h)(o:Ab):Fh h0 id (h.set id o):=⟨g.le,λj hj hne=>(Av hne).trans (g.old j hj hne)⟩
theorem Fh.new{h0 h:A0}{id:Nat}(g:Fh h0 id h)(o:Ab):Fh h0 id (h.new o):=⟨by simp only[A0.new];have:=g.le;omega,λj hj hne=>(DS (by have:=g.le;omega)).trans (g.old j hj hne)⟩
theorem Fh.tmp{h0 h:A0}{id:Nat}(g:Fh h0 id h)(o o':Ab):Fh h0 id (Ge h o o'):=⟨by rw[HL];have:=g.le;omega,λj hj hne=>(Gx (by have:=g.le;omega)).trans (g.old j hj hne)⟩
structure DF(h0:A0)(id:Nat)(d:Dm)(h:A0):Prop where
 grow:Fh h0 id h
 idl:id<h0.next/\id<h.next
 ex: ∃ t c p f a u,h.obj id=some (.arr 7 [[A2 d.name,t,c,p,f,a,u]])/\BR 2 (A7 d.types) t/\BR 2 (A7 d.constants) c/\
  Tl h h0.next 2 p (Bj d.predicates)/\Tl h h0.next 4 f (Bh d.functions)/\Tl h h0.next 10 a (Bm d.actions)/\Tl h h0.next 23 u (Bn d.duratives)
theorem DF.tmp{h0 h:A0}{id:Nat}{d:Dm}(i:DF h0 id d h)(o o':Ab):DF h0 id d (Ge h o o'):=by
 obtain⟨g,l,t,c,p,f,a,u,e0,e1,e2,e3,e4,e5,e6⟩:=i;exact⟨g.tmp o o',⟨l.1,by rw[HL];omega⟩,t,c,p,f,a,u,by rw[Gx l.2];exact e0,e1,e2,e3.tmp o o',e4.tmp o o',e5.tmp o o',e6.tmp o o'⟩
theorem DF.types{h0 h:A0}{id:Nat}{d:Dm}{t c p f a u:PV}{l:List Pm}(g:Fh h0 id h)(idl:id<h0.next/\id<h.next)(e2:BR 2 (A7 d.constants) c)(e3:Tl h h0.next 2 p (Bj d.predicates))(e4:Tl h h0.next 4 f (Bh d.functions))(e5:Tl h h0.next 10 a (Bm d.actions))(e6:Tl h h0.next 23 u (Bn d.duratives)):
  DF h0 id {d with types:=l} (h.set id (.arr 7 [[A2 d.name,.imm 2 (A7 l),c,p,f,a,u]])):=
 ⟨g.set _,⟨idl.1,idl.2⟩,.imm 2 (A7 l),c,p,f,a,u,Cy,.inl rfl,e2,e3.mid idl.1 _,e4.mid idl.1 _,e5.mid idl.1 _,e6.mid idl.1 _⟩
theorem DF.consts{h0 h:A0}{id:Nat}{d:Dm}{t c p f a u:PV}{l:List Pm}(g:Fh h0 id h)(idl:id<h0.next/\id<h.next)(e1:BR 2 (A7 d.types) t)(e3:Tl h h0.next 2 p (Bj d.predicates))(e4:Tl h h0.next 4 f (Bh d.functions))(e5:Tl h h0.next 10 a (Bm d.actions))(e6:Tl h h0.next 23 u (Bn d.duratives)):
  DF h0 id {d with constants:=l} (h.set id (.arr 7 [[A2 d.name,t,.imm 2 (A7 l),p,f,a,u]])):=
 ⟨g.set _,⟨idl.1,idl.2⟩,t,.imm 2 (A7 l),p,f,a,u,Cy,e1,.inl rfl,e3.mid idl.1 _,e4.mid idl.1 _,e5.mid idl.1 _,e6.mid idl.1 _⟩
theorem lM(l:List Pr)(a:Pr):Bj l++[FE a]=Bj (l++[a]):=by simp[Bj]
theorem DF.push_pr{h0 h:A0}{id:Nat}{d:Dm}{t c p f a u:PV}(x:Pr)(g:Fh h0 id h)(idl:id<h0.next/\id<h.next)(e0:h.obj id=some (.arr 7 [[A2 d.name,t,c,p,f,a,u]]))(e1:BR 2 (A7 d.types) t)(e2:BR 2 (A7 d.constants) c)(e3:Tl h h0.next 2 p (Bj d.predicates))(e4:Tl h h0.next 4 f (Bh d.functions))(e5:Tl h h0.next 10 a (Bm d.actions))(e6:Tl h h0.next 23 u (Bn d.duratives)):
  ∃ H,Dc h p=some (H,Bj d.predicates)/\Cw h 2 p=true/\H.next=h.next/\H.obj id=some (.arr 7 [[A2 d.name,t,c,p,f,a,u]])/\
   DF h0 id {d with predicates:=d.predicates++[x]} ((H.new (.arr 2 (Bj (d.predicates++[x])))).set id (.arr 7 [[A2 d.name,t,c,.own h.next 0 (d.predicates.length+1),f,a,u]])):=by
 obtain⟨H,t1,t2,t3,t4,t5⟩:=e3.tail;have hle:=g.le;have hk:Fh h0 id H:=⟨by omega,λj hj hne=>(t4 j hj).trans (g.old j hj hne)⟩;refine⟨H,t1,t2,t3,(t4 _ idl.1).trans e0,(hk.new _).set _,⟨idl.1,by simp only[A0.set,A0.new];omega⟩,t,c,.own h.next 0 (d.predicates.length+1),f,a,u,Cy,e1,e2,?_,?_,?_,?_⟩
 ·rw [← t3];exact(Tl.grow (id0:=h0.next) (H:=H) (z:=2) (len:=d.predicates.length+1) (rows:=Bj (d.predicates++[x])) (by omega) (by simp[No])).mid idl.1 _
 ·exact (((Tl.other9 e3 e4 (by decide) t1 t3).up (h':=H.new (.arr 2 (Bj (d.predicates++[x])))) (by simp only[A0.new];omega) λj _ hj=>DS hj)).mid idl.1 _
 ·exact (((Tl.other9 e3 e5 (by decide) t1 t3).up (h':=H.new (.arr 2 (Bj (d.predicates++[x])))) (by simp only[A0.new];omega) λj _ hj=>DS hj)).mid idl.1 _
 ·exact (((Tl.other9 e3 e6 (by decide) t1 t3).up (h':=H.new (.arr 2 (Bj (d.predicates++[x])))) (by simp only[A0.new];omega) λj _ hj=>DS hj)).mid idl.1 _
theorem lN(l:List Fu)(a:Fu):Bh l++[FF a]=Bh (l++[a]):=by simp[Bh]
theorem DF.push_fu{h0 h:A0}{id:Nat}{d:Dm}{t c p f a u:PV}(x:Fu)(g:Fh h0 id h)(idl:id<h0.next/\id<h.next)(e0:h.obj id=some (.arr 7 [[A2 d.name,t,c,p,f,a,u]]))(e1:BR 2 (A7 d.types) t)(e2:BR 2 (A7 d.constants) c)(e3:Tl h h0.next 2 p (Bj d.predicates))(e4:Tl h h0.next 4 f (Bh d.functions))(e5:Tl h h0.next 10 a (Bm d.actions))(e6:Tl h h0.next 23 u (Bn d.duratives)):
  ∃ H,Dc h f=some (H,Bh d.functions)/\Cw h 4 f=true/\H.next=h.next/\H.obj id=some (.arr 7 [[A2 d.name,t,c,p,f,a,u]])/\
   DF h0 id {d with functions:=d.functions++[x]} ((H.new (.arr 4 (Bh (d.functions++[x])))).set id (.arr 7 [[A2 d.name,t,c,p,.own h.next 0 (d.functions.length+1),a,u]])):=by
 obtain⟨H,t1,t2,t3,t4,t5⟩:=e4.tail;have hle:=g.le;have hk:Fh h0 id H:=⟨by omega,λj hj hne=>(t4 j hj).trans (g.old j hj hne)⟩;refine⟨H,t1,t2,t3,(t4 _ idl.1).trans e0,(hk.new _).set _,⟨idl.1,by simp only[A0.set,A0.new];omega⟩,t,c,p,.own h.next 0 (d.functions.length+1),a,u,Cy,e1,e2,?_,?_,?_,?_⟩
 ·exact (((Tl.other9 e4 e3 (by decide) t1 t3).up (h':=H.new (.arr 4 (Bh (d.functions++[x])))) (by simp only[A0.new];omega) λj _ hj=>DS hj)).mid idl.1 _
 ·rw [← t3];exact(Tl.grow (id0:=h0.next) (H:=H) (z:=4) (len:=d.functions.length+1) (rows:=Bh (d.functions++[x])) (by omega) (by simp[Np])).mid idl.1 _
 ·exact (((Tl.other9 e4 e5 (by decide) t1 t3).up (h':=H.new (.arr 4 (Bh (d.functions++[x])))) (by simp only[A0.new];omega) λj _ hj=>DS hj)).mid idl.1 _
 ·exact (((Tl.other9 e4 e6 (by decide) t1 t3).up (h':=H.new (.arr 4 (Bh (d.functions++[x])))) (by simp only[A0.new];omega) λj _ hj=>DS hj)).mid idl.1 _
theorem lO(l:List Ac)(a:Ac):Bm l++[FG a]=Bm (l++[a]):=by simp[Bm]
theorem DF.push_ac{h0 h:A0}{id:Nat}{d:Dm}{t c p f a u:PV}(x:Ac)(g:Fh h0 id h)(idl:id<h0.next/\id<h.next)(e0:h.obj id=some (.arr 7 [[A2 d.name,t,c,p,f,a,u]]))(e1:BR 2 (A7 d.types) t)(e2:BR 2 (A7 d.constants) c)(e3:Tl h h0.next 2 p (Bj d.predicates))(e4:Tl h h0.next 4 f (Bh d.functions))(e5:Tl h h0.next 10 a (Bm d.actions))(e6:Tl h h0.next 23 u (Bn d.duratives)):
  ∃ H,Dc h a=some (H,Bm d.actions)/\Cw h 10 a=true/\H.next=h.next/\H.obj id=some (.arr 7 [[A2 d.name,t,c,p,f,a,u]])/\
   DF h0 id {d with actions:=d.actions++[x]} ((H.new (.arr 10 (Bm (d.actions++[x])))).set id (.arr 7 [[A2 d.name,t,c,p,f,.own h.next 0 (d.actions.length+1),u]])):=by
 obtain⟨H,t1,t2,t3,t4,t5⟩:=e5.tail;have hle:=g.le;have hk:Fh h0 id H:=⟨by omega,λj hj hne=>(t4 j hj).trans (g.old j hj hne)⟩;refine⟨H,t1,t2,t3,(t4 _ idl.1).trans e0,(hk.new _).set _,⟨idl.1,by simp only[A0.set,A0.new];omega⟩,t,c,p,f,.own h.next 0 (d.actions.length+1),u,Cy,e1,e2,?_,?_,?_,?_⟩
 ·exact (((Tl.other9 e5 e3 (by decide) t1 t3).up (h':=H.new (.arr 10 (Bm (d.actions++[x])))) (by simp only[A0.new];omega) λj _ hj=>DS hj)).mid idl.1 _
 ·exact (((Tl.other9 e5 e4 (by decide) t1 t3).up (h':=H.new (.arr 10 (Bm (d.actions++[x])))) (by simp only[A0.new];omega) λj _ hj=>DS hj)).mid idl.1 _
 ·rw [← t3];exact(Tl.grow (id0:=h0.next) (H:=H) (z:=10) (len:=d.actions.length+1) (rows:=Bm (d.actions++[x])) (by omega) (by simp[Nq])).mid idl.1 _
 ·exact (((Tl.other9 e5 e6 (by decide) t1 t3).up (h':=H.new (.arr 10 (Bm (d.actions++[x])))) (by simp only[A0.new];omega) λj _ hj=>DS hj)).mid idl.1 _
theorem lP(l:List Du)(a:Du):Bn l++[FH a]=Bn (l++[a]):=by simp[Bn]
theorem DF.push_du{h0 h:A0}{id:Nat}{d:Dm}{t c p f a u:PV}(x:Du)(g:Fh h0 id h)(idl:id<h0.next/\id<h.next)(e0:h.obj id=some (.arr 7 [[A2 d.name,t,c,p,f,a,u]]))(e1:BR 2 (A7 d.types) t)(e2:BR 2 (A7 d.constants) c)(e3:Tl h h0.next 2 p (Bj d.predicates))(e4:Tl h h0.next 4 f (Bh d.functions))(e5:Tl h h0.next 10 a (Bm d.actions))(e6:Tl h h0.next 23 u (Bn d.duratives)):
  ∃ H,Dc h u=some (H,Bn d.duratives)/\Cw h 23 u=true/\H.next=h.next/\H.obj id=some (.arr 7 [[A2 d.name,t,c,p,f,a,u]])/\
   DF h0 id {d with duratives:=d.duratives++[x]} ((H.new (.arr 23 (Bn (d.duratives++[x])))).set id (.arr 7 [[A2 d.name,t,c,p,f,a,.own h.next 0 (d.duratives.length+1)]])):=by
 obtain⟨H,t1,t2,t3,t4,t5⟩:=e6.tail;have hle:=g.le;have hk:Fh h0 id H:=⟨by omega,λj hj hne=>(t4 j hj).trans (g.old j hj hne)⟩;refine⟨H,t1,t2,t3,(t4 _ idl.1).trans e0,(hk.new _).set _,⟨idl.1,by simp only[A0.set,A0.new];omega⟩,t,c,p,f,a,.own h.next 0 (d.duratives.length+1),Cy,e1,e2,?_,?_,?_,?_⟩
 ·exact (((Tl.other9 e6 e3 (by decide) t1 t3).up (h':=H.new (.arr 23 (Bn (d.duratives++[x])))) (by simp only[A0.new];omega) λj _ hj=>DS hj)).mid idl.1 _
 ·exact (((Tl.other9 e6 e4 (by decide) t1 t3).up (h':=H.new (.arr 23 (Bn (d.duratives++[x])))) (by simp only[A0.new];omega) λj _ hj=>DS hj)).mid idl.1 _
 ·exact (((Tl.other9 e6 e5 (by decide) t1 t3).up (h':=H.new (.arr 23 (Bn (d.duratives++[x])))) (by simp only[A0.new];omega) λj _ hj=>DS hj)).mid idl.1 _
 ·rw [← t3];exact(Tl.grow (id0:=h0.next) (H:=H) (z:=23) (len:=d.duratives.length+1) (rows:=Bn (d.duratives++[x])) (by omega) (by simp[Nr])).mid idl.1 _
theorem lQ{x:Sx}(hsm:x.small){w:ByteArray}{l:List Sx}(h:Bd x=some (w,l)): ∀ y∈l,y.small:=by
 obtain⟨kind,value,line,col,text,kids⟩:=x;obtain⟨y,rfl,_,_⟩:=N3 h;simp only[Sx.small]at hsm;have:=Sx.smalls_iff.1 hsm.2;exact λz hz=>this z (by simp[hz])
theorem lR{h0:A0}{id:Nat}{d:Dm}{x:Sx}{w:ByteArray}{rest:List Sx}(hD:Bd x=some (w,rest))(hok:x.ok)(hsm:x.small)(hb1:d.predicates.length<=1099511627776)(hb2:d.functions.length<=1099511627776)(hb3:d.actions.length<=4294967296)(hb4:d.duratives.length<=4294967296)(h:A0)(hI:DF h0 id d h):
  A6 prog 61 [.ptr id 0 0,.agg x.cells] h λr h'=>r=AO (Cu d w rest x).2/\DF h0 id (Cu d w rest x).1 h':=by
 obtain⟨_,hl,hlo⟩:=Ku hok hsm hD;have hls:=lQ hsm hD;have hxo:=hok;have hxs:=hsm;obtain⟨kind,value,line,col,text,kids⟩:=x;obtain⟨yk,yv,yl,yc,ys,hkd,r0,q0,q1',ht,hws,hrl⟩:=N9 hok hD;have hll:=Sx.rows_len rest;simp only[Sx.cells];generalize hR:Sx.rows kids=R at r0 q0 q1' ht hrl
 clear hD hok hsm hkd;cases qa:(w.data.toList==(#[58,114,101,113,117,105,114,101,109,101,110,116,115]:Array UInt8).toList)with
 |true=>
  have e:Cu d w rest (.mk kind value line col text kids)=(d,0):=by unfold Cu;simp only[show A1 w Gk=true from qa,AB,AI]
  rw[e]
  clear e;refine AE func61 ntmps61 results61 Ty.KU ?_;replace zz:=BO r0 q0 qa q1' ht hll @CU @CV;refine wt zz ?_;first|exact hI|exact⟨rfl,hI⟩
 |false=>
  cases qb:(w.data.toList==(#[58,116,121,112,101,115]:Array UInt8).toList)with
  |true=>
   have e:Cu d w rest (.mk kind value line col text kids)=({d with types:=(Bt false rest).1},(Bt false rest).2):=(by unfold Cu;simp only[show A1 w Gk=false from qa,show A1 w DV=true from qb,AB,AI]);rw[e];clear e;have hp:=λh:A0=>Lp (vars:=false) hl hlo h;generalize Bt false rest=L at hp⊢;obtain⟨l,cc⟩:=L;obtain⟨cu,hu⟩:=Df cc;simp only[hu]at hp⊢;obtain⟨g,idl,t,c,p,f,a,u,e0,e1,e2,e3,e4,e5,e6⟩:=hI;refine AE func61 ntmps61 results61 Ty.KU ?_;replace zz:=BK r0 q0 qa qb q1' ht hll @CU @CV;refine wt zz ?_;refine uU (uu r0 q0) (hp _) ?_;replace zz:=Ag r0 q0 r0 q0 qa qb e0;refine wt zz ?_;first|exact DF.types (d:=d) (t:=t) (c:=c) (l:=l) g idl e2 e3 e4 e5 e6|exact⟨rfl,DF.types (d:=d) (t:=t) (c:=c) (l:=l) g idl e2 e3 e4 e5 e6⟩
  |false=>
   cases qc:(w.data.toList==(#[58,99,111,110,115,116,97,110,116,115]:Array UInt8).toList)with
   |true=>
    have e:Cu d w rest (.mk kind value line col text kids)=({d with constants:=(Bt false rest).1},(Bt false rest).2):=(by unfold Cu;simp only[show A1 w Gk=false from qa,show A1 w DV=false from qb,show A1 w DW=true from qc,AB,AI]);rw[e];clear e;have hp:=λh:A0=>Lp (vars:=false) hl hlo h;generalize Bt false rest=L at hp⊢;obtain⟨l,cc⟩:=L;obtain⟨cu,hu⟩:=Df cc;simp only[hu]at hp⊢;obtain⟨g,idl,t,c,p,f,a,u,e0,e1,e2,e3,e4,e5,e6⟩:=hI;refine AE func61 ntmps61 results61 Ty.KU ?_;replace zz:=B7 r0 q0 qa qb qc q1' ht hll @CU @CV;refine wt zz ?_;refine uU (uu r0 q0) (hp _) ?_;replace zz:=BO r0 q0 r0 q0 qa qb qc e0;refine wt zz ?_;first|exact DF.consts (d:=d) (t:=t) (c:=c) (l:=l) g idl e1 e3 e4 e5 e6|exact⟨rfl,DF.consts (d:=d) (t:=t) (c:=c) (l:=l) g idl e1 e3 e4 e5 e6⟩
   |false=>
    cases qd:(w.data.toList==(#[58,112,114,101,100,105,99,97,116,101,115]:Array UInt8).toList)with
    |true=>
     have e:Cu d w rest (.mk kind value line col text kids)=({d with predicates:=(GP d.predicates rest).1},(GP d.predicates rest).2):=(by unfold Cu;simp only[show A1 w Gk=false from qa,show A1 w DV=false from qb,show A1 w DW=false from qc,show A1 w DX=true from qd,AB,AI]);rw[e];clear e;generalize hE:GP d.predicates rest=E;refine AE func61 ntmps61 results61 Ty.KU ?_;replace zz:=E7 r0 q0 qa qb qc qd q1' ht hll @CU @CV;refine wt zz ?_;refine Cd (λm S H=>S 0= .ptr id 0 0/\S 55= .imm 6 (Sx.rows rest)/\S 56= .sc (.int .i64 rest.length)/\ ∃ (k:Nat)(L:List Pr),S 57= .sc (.int .i64 k)/\k<=rest.length/\m=rest.length-k/\L.length<=d.predicates.length+k/\DF h0 id {d with predicates:=L} H/\E=GP L (rest.drop k)) rest.length ?_ ?_
     ·simp only[Ty.w,simprocAttr];exact⟨0,d.predicates,rfl,Bx _,rfl,AD _,hI,by rw[CB];exact hE.symm⟩
     clear hI hE;rintro m S H ⟨s0,sV,sN,k,L,sI,hk,rfl,hL,hI,hE⟩;by_cases hlt:k<rest.length
     ·have hd:decide ((k:Int)<(rest.length:Int))=true:=(by simp;omega);have w7:IntKind.i64.wrap ((k:Int)+1)=((k+1:Nat):Int):=(by rw[Br (by omega) (by omega)];omega);obtain⟨y,hx⟩: ∃ y,rest[k]? =some y:=⟨_,AU hlt⟩;have hr:=Sx.rows_get hx;have hmem:=C7 hx;have hc:=λh:A0=>l9 (hlo y hmem) (hls y hmem) h;rw[Cm hx]at hE;simp only[GP]at hE;generalize HT y=A at hE hc;obtain⟨x0,cc⟩:=A;simp only at hE hc;clear hx hmem;obtain⟨vk,vv,vl,vc,vt,vs⟩:=y;simp only[Sx.cells]at hr hc;obtain⟨cu,hu⟩:=Df cc;have hap:=lM L x0;replace zz:=Aq s0 sV sN sI hd hr;refine xG 16 zz ?_;refine⟨?_⟩;refine Gy 9 rfl (sq A3) (λn H=>FZ n H (.mk vk vv vl vc vt vs)) ?_;refine Cj (λS H=>S 0= .ptr id 0 0/\S 55= .imm 6 (Sx.rows rest)/\S 56= .sc (.int .i64 rest.length)/\S 57= .sc (.int .i64 k)/\S 9= .cptr [.sc (.int .i64 vk),.sc (.int .i64 vv),.sc (.int .i64 vl),.sc (.int .i64 vc),A2 vt,.imm 6 (Sx.rows vs)]/\DF h0 id {d with predicates:=L} H) ⟨sq s0,sq sV,sq sN,sq sI,by simp only[Ty.w,simprocAttr,Sx.cells],hI.tmp _ _⟩ ?_;clear s0 sV sN sI hI hr hd;rintro S H ⟨s0,sV,sN,sI,s9,hI⟩;obtain⟨pn,pp⟩:=x0;simp only[FE]at hc hap;cases hcc:cc==0 with
      |false=>
       have e0':AO cc=Aj cc:=(by simp only[AO,hcc,AI]);rw[hcc]at hE;simp only[AI]at hE;rw[e0']at hc;simp only[Aj]at hc;refine wt s9 ?_;replace zz:=As s0 sV sN sI s9;refine uU zz (hc _) ?_;refine xH 17 (uu s0 @B2) ?_;refine⟨?_⟩;refine Gy 10 rfl (sq A3) (λn H=>by simp only[AL];exact⟨BX,B3 (Bu n _),trivial⟩) ?_;have hI2:=hI.tmp (.arr 2 [[.sc (.string ⟨#[]⟩),.sc (.slice none 0 0)]]) (.arr 2 [[A2 pn,.imm 2 (A7 pp)]]);refine wt s0 ?_;subst hE;exact⟨e0'.symm,hI2⟩
      |true=>
       have e0':AO cc= .sc .nilIface:=(by simp only[AO,hcc,AB]);rw[hcc]at hE;simp only[AB]at hE;rw[e0']at hc;refine wt s9 ?_;replace zz:=As s0 sV sN sI s9;refine uU zz (hc _) ?_;refine xH 17 (uu s0 @B2) ?_;refine⟨?_⟩;refine Gy 10 rfl (sq A3) (λn H=>by simp only[AL];exact⟨BX,B3 (Bu n _),trivial⟩) ?_;refine Cj (λS H=>S 0= .ptr id 0 0/\S 55= .imm 6 (Sx.rows rest)/\S 56= .sc (.int .i64 rest.length)/\S 57= .sc (.int .i64 k)/\S 10= .cptr [A2 pn,.imm 2 (A7 pp)]/\S 11= .sc .nilIface/\DF h0 id {d with predicates:=L} H) ⟨sq s0,sq sV,sq sN,sq sI,sq A3,sq A3,hI.tmp _ _⟩ ?_;clear s0 sV sN sI s9 hI hc;rintro S h' ⟨s0,sV,sN,sI,s9,s10,hI⟩;obtain⟨g,idl,t,c,p,f,a,u,e0,e1,e2,e3,e4,e5,e6⟩:=hI;obtain⟨H,t1,t2,t3,eH,hP⟩:=DF.push_pr ⟨pn,pp⟩ g idl e0 e1 e2 e3 e4 e5 e6;simp only at t1 t2 eH hP e0;have hri:=No L;have hbb:(L.length+1)*40<=140737488355328:=(by omega);have n2:(id=H.next)=False:=(by simp;omega);have n3:(id=h'.next)=False:=(by simp;omega);have hpc:=e3.cell;replace zz:=AY s0 s9 s10 sV sN sI w7 e0 eH n2 n3 (Ag t1 t2 t3 hri hbb hpc hap);refine wy zz ?_;(try simp only[Ao,simprocAttr]);replace zz:=As s0 sV sN sI w7;refine wt zz ?_;first
        |exact⟨rest.length-(k+1),by omega,k+1,L++[⟨pn,pp⟩],rfl,by omega,rfl,by simp;omega,hP,hE⟩
        |exact⟨rest.length-(k+1),by omega,sq s0,sq sV,sq sN,k+1,L++[⟨pn,pp⟩],sq A3,by omega,rfl,by simp;omega,hP,hE⟩
     ·have hd:decide ((k:Int)<(rest.length:Int))=false:=(by simp;omega);rw[D3 (by omega)]at hE;simp only[GP]at hE;subst hE;replace zz:=As s0 sV sN sI hd;refine wt zz ?_;first|exact hI|exact⟨rfl,hI⟩
    |false=>
     cases qe:(w.data.toList==(#[58,102,117,110,99,116,105,111,110,115]:Array UInt8).toList)with
     |true=>
      have e:Cu d w rest (.mk kind value line col text kids)=({d with functions:=(GQ d.functions rest).1},(GQ d.functions rest).2):=(by unfold Cu;simp only[show A1 w Gk=false from qa,show A1 w DV=false from qb,show A1 w DW=false from qc,show A1 w DX=false from qd,show A1 w DP=true from qe,AB,AI]);rw[e];clear e;generalize hE:GQ d.functions rest=E;refine AE func61 ntmps61 results61 Ty.KU ?_;replace zz:=AY r0 q0 qa qb qc qd qe q1' ht hll @CU @CV;refine wt zz ?_;refine Cd (λm S H=>S 0= .ptr id 0 0/\S 82= .imm 6 (Sx.rows rest)/\S 83= .sc (.int .i64 rest.length)/\ ∃ (k:Nat)(L:List Fu),S 84= .sc (.int .i64 k)/\k<=rest.length/\m=rest.length-k/\L.length<=d.functions.length+k/\DF h0 id {d with functions:=L} H/\E=GQ L (rest.drop k)) rest.length ?_ ?_
      ·simp only[Ty.w,simprocAttr];exact⟨0,d.functions,rfl,Bx _,rfl,AD _,hI,by rw[CB];exact hE.symm⟩
      clear hI hE;rintro m S H ⟨s0,sV,sN,k,L,sI,hk,rfl,hL,hI,hE⟩;by_cases hlt:k<rest.length
      ·have hd:decide ((k:Int)<(rest.length:Int))=true:=(by simp;omega);have w7:IntKind.i64.wrap ((k:Int)+1)=((k+1:Nat):Int):=(by rw[Br (by omega) (by omega)];omega);obtain⟨y,hx⟩: ∃ y,rest[k]? =some y:=⟨_,AU hlt⟩;have hr:=Sx.rows_get hx;have hmem:=C7 hx;have hc:=λh:A0=>lC (hlo y hmem) (hls y hmem) h;rw[Cm hx]at hE;simp only[GQ]at hE;generalize HU y=A at hE hc;obtain⟨x0,cc⟩:=A;simp only at hE hc;clear hx hmem;obtain⟨vk,vv,vl,vc,vt,vs⟩:=y;simp only[Sx.cells]at hr hc;obtain⟨cu,hu⟩:=Df cc;have hap:=lN L x0;replace zz:=Aq s0 sV sN sI hd hr;refine xG 26 zz ?_;refine⟨?_⟩;refine Gy 13 rfl (sq A3) (λn H=>FZ n H (.mk vk vv vl vc vt vs)) ?_;refine Cj (λS H=>S 0= .ptr id 0 0/\S 82= .imm 6 (Sx.rows rest)/\S 83= .sc (.int .i64 rest.length)/\S 84= .sc (.int .i64 k)/\S 13= .cptr [.sc (.int .i64 vk),.sc (.int .i64 vv),.sc (.int .i64 vl),.sc (.int .i64 vc),A2 vt,.imm 6 (Sx.rows vs)]/\DF h0 id {d with functions:=L} H) ⟨sq s0,sq sV,sq sN,sq sI,by simp only[Ty.w,simprocAttr,Sx.cells],hI.tmp _ _⟩ ?_;clear s0 sV sN sI hI hr hd;rintro S H ⟨s0,sV,sN,sI,s9,hI⟩;obtain⟨pn,pp,plo,phi⟩:=x0;simp only[FF]at hc hap;cases hcc:cc==0 with
       |false=>
        have e0':AO cc=Aj cc:=(by simp only[AO,hcc,AI]);rw[hcc]at hE;simp only[AI]at hE;rw[e0']at hc;simp only[Aj]at hc;refine wt s9 ?_;replace zz:=As s0 sV sN sI s9;refine uU zz (hc _) ?_;refine xH 27 (uu s0 @B2) ?_;refine⟨?_⟩;refine Gy 14 rfl (sq A3) (λn H=>by simp only[AL];exact⟨BX,B3 (Bu n _),BX,BX,trivial⟩) ?_;have hI2:=hI.tmp (.arr 4 [[.sc (.string ⟨#[]⟩),.sc (.slice none 0 0),.sc (.int .i64 0),.sc (.int .i64 0)]]) (.arr 4 [[A2 pn,.imm 2 (A7 pp),.sc (.int .i64 plo),.sc (.int .i64 phi)]]);refine wt s0 ?_;subst hE;exact⟨e0'.symm,hI2⟩
       |true=>
        have e0':AO cc= .sc .nilIface:=(by simp only[AO,hcc,AB]);rw[hcc]at hE;simp only[AB]at hE;rw[e0']at hc;refine wt s9 ?_;replace zz:=As s0 sV sN sI s9;refine uU zz (hc _) ?_;refine xH 27 (uu s0 @B2) ?_;refine⟨?_⟩;refine Gy 14 rfl (sq A3) (λn H=>by simp only[AL];exact⟨BX,B3 (Bu n _),BX,BX,trivial⟩) ?_;refine Cj (λS H=>S 0= .ptr id 0 0/\S 82= .imm 6 (Sx.rows rest)/\S 83= .sc (.int .i64 rest.length)/\S 84= .sc (.int .i64 k)/\S 14= .cptr [A2 pn,.imm 2 (A7 pp),.sc (.int .i64 plo),.sc (.int .i64 phi)]/\S 15= .sc .nilIface/\DF h0 id {d with functions:=L} H) ⟨sq s0,sq sV,sq sN,sq sI,sq A3,sq A3,hI.tmp _ _⟩ ?_;clear s0 sV sN sI s9 hI hc;rintro S h' ⟨s0,sV,sN,sI,s9,s10,hI⟩;obtain⟨g,idl,t,c,p,f,a,u,e0,e1,e2,e3,e4,e5,e6⟩:=hI;obtain⟨H,t1,t2,t3,eH,hP⟩:=DF.push_fu ⟨pn,pp,plo,phi⟩ g idl e0 e1 e2 e3 e4 e5 e6;simp only at t1 t2 eH hP e0;have hri:=Np L;have hbb:(L.length+1)*56<=140737488355328:=(by omega);have n2:(id=H.next)=False:=(by simp;omega);have n3:(id=h'.next)=False:=(by simp;omega);have hpc:=e4.cell;replace zz:=AY s0 s9 s10 sV sN sI w7 e0 eH n2 n3 (Ag t1 t2 t3 hri hbb hpc hap);refine wy zz ?_;(try simp only[Ao,simprocAttr]);replace zz:=As s0 sV sN sI w7;refine wt zz ?_;first
         |exact⟨rest.length-(k+1),by omega,k+1,L++[⟨pn,pp,plo,phi⟩],rfl,by omega,rfl,by simp;omega,hP,hE⟩
         |exact⟨rest.length-(k+1),by omega,sq s0,sq sV,sq sN,k+1,L++[⟨pn,pp,plo,phi⟩],sq A3,by omega,rfl,by simp;omega,hP,hE⟩
      ·have hd:decide ((k:Int)<(rest.length:Int))=false:=(by simp;omega);rw[D3 (by omega)]at hE;simp only[GQ]at hE;subst hE;replace zz:=As s0 sV sN sI hd;refine wt zz ?_;first|exact hI|exact⟨rfl,hI⟩
     |false=>
      cases qf:(w.data.toList==(#[58,97,99,116,105,111,110]:Array UInt8).toList)with
      |true=>
       have e:Cu d w rest (.mk kind value line col text kids)=({d with actions:=d.actions++[(H6 (.mk kind value line col text kids)).1]},(H6 (.mk kind value line col text kids)).2):=(by unfold Cu;simp only[show A1 w Gk=false from qa,show A1 w DV=false from qb,show A1 w DW=false from qc,show A1 w DX=false from qd,show A1 w DP=false from qe,show A1 w Dl=true from qf,AB,AI]);rw[e];clear e;have hc:=λh:A0=>lI hxo hxs h;generalize H6 (.mk kind value line col text kids)=A at hc⊢;obtain⟨⟨an,ap,ac,⟨gop,gna,gar,gpa,gex,gki⟩,ach⟩,cc⟩:=A;obtain⟨cu,hu⟩:=Df cc;have hap:=lO d.actions ⟨an,ap,ac,⟨gop,gna,gar,gpa,gex,gki⟩,ach⟩;simp only[hu,Sx.cells,hR,FG,Fm.cells,C3,Au]at hc hap⊢;refine AE func61 ntmps61 results61 Ty.KU ?_;replace zz:=AY r0 q0 qa qb qc qd qe qf q1' ht hll (uu @CU @CV);refine wt zz ?_;refine uU r0 (hc _) ?_;refine xG 34 @B2 ?_;refine⟨?_⟩;refine Gy 16 rfl (sq A3) (λn H=>by simp only[AL];exact⟨BX,B3 (Bu n _),BX,BX,BX,B3 (DO n _),B3 (Bu n _),B3 (Dq n _),B3 (EO n _),B3 (Gi n _),trivial⟩) ?_;refine Cj (λS H=>S 0= .ptr id 0 0/\S 16= .cptr [A2 an,.imm 2 (A7 ap),.sc (.int .i64 ac),A2 gop,A2 gna,.imm 1 (AN gar),.imm 2 (A7 gpa),.imm 5 (Ex.rows gex),.imm 6 (Fm.rows gki),.imm 15 (Al ach)]/\S 17= .sc cu/\DF h0 id d H) ⟨sq A3,sq A3,sq A3,hI.tmp _ _⟩ ?_;clear hI hc;rintro S h' ⟨s0,s9,s10,hI⟩;obtain⟨g,idl,t,c,p,f,a,u,e0,e1,e2,e3,e4,e5,e6⟩:=hI;obtain⟨H,t1,t2,t3,eH,hP⟩:=DF.push_ac ⟨an,ap,ac,⟨gop,gna,gar,gpa,gex,gki⟩,ach⟩ g idl e0 e1 e2 e3 e4 e5 e6;have hri:=Nq d.actions;have hbb:(d.actions.length+1)*200<=140737488355328:=(by omega);have n2:(id=H.next)=False:=(by simp;omega);have n3:(id=h'.next)=False:=(by simp;omega);have hpc:=e5.cell;replace zz:=AY s0 s9 s10 e0 eH n2 n3 t1 t2 t3 hri (AV hbb hpc hap);refine wy zz ?_;first|exact hP|exact⟨rfl,hP⟩
      |false=>
       cases qg:(w.data.toList==(#[58,100,117,114,97,116,105,118,101,45,97,99,116,105,111,110]:Array UInt8).toList)with
       |true=>
        have e:Cu d w rest (.mk kind value line col text kids)=({d with duratives:=d.duratives++[(H8 (.mk kind value line col text kids)).1]},(H8 (.mk kind value line col text kids)).2):=(by unfold Cu;simp only[show A1 w Gk=false from qa,show A1 w DV=false from qb,show A1 w DW=false from qc,show A1 w DX=false from qd,show A1 w DP=false from qe,show A1 w Dl=false from qf,show A1 w En=true from qg,AB,AI]);rw[e];clear e;have hc:=λh:A0=>lL hxo hxs h;generalize H8 (.mk kind value line col text kids)=A at hc⊢;obtain⟨⟨an,ap,ac,⟨gop,gna,gar,gpa,gex,gki⟩,⟨kop,kna,kar,kpa,kex,kki⟩,⟨lop,lna,lar,lpa,lex,lki⟩,ach,bch⟩,cc⟩:=A;obtain⟨cu,hu⟩:=Df cc;have hap:=lP d.duratives ⟨an,ap,ac,⟨gop,gna,gar,gpa,gex,gki⟩,⟨kop,kna,kar,kpa,kex,kki⟩,⟨lop,lna,lar,lpa,lex,lki⟩,ach,bch⟩;simp only[hu,Sx.cells,hR,FH,Fm.cells,C3,Au]at hc hap⊢;refine AE func61 ntmps61 results61 Ty.KU ?_;replace zz:=AY r0 q0 qa qb qc qd qe qf qg q1' ht (AV hll @CU @CV);refine wt zz ?_;refine uU r0 (hc _) ?_;refine xG 38 @B2 ?_;refine⟨?_⟩;refine Gy 18 rfl (sq A3) (λn H=>by simp only[AL];exact⟨BX,B3 (Bu n _),BX,BX,BX,B3 (DO n _),B3 (Bu n _),B3 (Dq n _),B3 (EO n _),BX,BX,B3 (DO n _),B3 (Bu n _),B3 (Dq n _),B3 (EO n _),BX,BX,B3 (DO n _),B3 (Bu n _),B3 (Dq n _),B3 (EO n _),B3 (Gi n _),B3 (Gi n _),trivial⟩) ?_;refine Cj (λS H=>S 0= .ptr id 0 0/\S 18= .cptr [A2 an,.imm 2 (A7 ap),.sc (.int .i64 ac),A2 gop,A2 gna,.imm 1 (AN gar),.imm 2 (A7 gpa),.imm 5 (Ex.rows gex),.imm 6 (Fm.rows gki),A2 kop,A2 kna,.imm 1 (AN kar),.imm 2 (A7 kpa),.imm 5 (Ex.rows kex),.imm 6 (Fm.rows kki),A2 lop,A2 lna,.imm 1 (AN lar),.imm 2 (A7 lpa),.imm 5 (Ex.rows lex),.imm 6 (Fm.rows lki),.imm 15 (Al ach),.imm 15 (Al bch)]/\S 19= .sc cu/\DF h0 id d H) ⟨sq A3,sq A3,sq A3,hI.tmp _ _⟩ ?_;clear hI hc;rintro S h' ⟨s0,s9,s10,hI⟩;obtain⟨g,idl,t,c,p,f,a,u,e0,e1,e2,e3,e4,e5,e6⟩:=hI;obtain⟨H,t1,t2,t3,eH,hP⟩:=DF.push_du ⟨an,ap,ac,⟨gop,gna,gar,gpa,gex,gki⟩,⟨kop,kna,kar,kpa,kex,kki⟩,⟨lop,lna,lar,lpa,lex,lki⟩,ach,bch⟩ g idl e0 e1 e2 e3 e4 e5 e6;have hri:=Nr d.duratives;have hbb:(d.duratives.length+1)*480<=140737488355328:=(by omega);have n2:(id=H.next)=False:=(by simp;omega);have n3:(id=h'.next)=False:=(by simp;omega);have hpc:=e6.cell;replace zz:=AY s0 s9 s10 e0 eH n2 n3 t1 t2 t3 hri (AV hbb hpc hap);refine wy zz ?_;first|exact hP|exact⟨rfl,hP⟩
       |false=>
        have e:Cu d w rest (.mk kind value line col text kids)=(d,2):=(by unfold Cu;simp only[show A1 w Gk=false from qa,show A1 w DV=false from qb,show A1 w DW=false from qc,show A1 w DX=false from qd,show A1 w DP=false from qe,show A1 w Dl=false from qf,show A1 w En=false from qg,AB,AI]);rw[e];clear e;refine AE func61 ntmps61 results61 Ty.KU ?_;replace zz:=AY r0 q0 qa qb qc qd qe qf qg q1' ht (AV hll @CU @CV);refine wt zz ?_;first|exact hI|exact⟨rfl,hI⟩
set_option maxHeartbeats 4000000
theorem OZ{v:Bool}{l:List Sx}(h: ∀ x∈l,x.ok): ∀ p∈(Bt v l).1,p.ok:=
 (SU v l.length l (AD _) h [] [] (by simp) (by simp)).1
theorem Xh{x:Sx}(hok:x.ok)(hsm:x.small):(G9 x).1.length<=1048576/\ ∀ p∈(G9 x).1,p.ok:=by
 unfold G9;cases Ax x==3 with
 |false=>simp
 |true=>
  obtain⟨kind,value,line,col,text,kids⟩:=x;simp only[Sx.ok]at hok;simp only[Sx.small]at hsm;simp only[AB,CA];exact⟨EE (OP true kids) hsm.1,OZ (Sx.oks_iff.1 hok.2.2.2.2)⟩
theorem Xi{x:Sx}(hok:x.ok):(EW x).1.length<=1048576/\ ∀ c∈(EW x).1,c.ok/\Fq c:=by
 unfold EW;split
 ·rename_i v;have hsm:=Kf v;have hnd:=((JK x 0 0 (by omega) (by omega)).1.1 v).2.2;have hS:Dk.okN ⟨[],[]⟩ x.nodes:=⟨by simp,by simp only[Bw];omega,by simp,by simp only[Bw];omega⟩;have hcs:=Sd _ x (AD _) ⟨[],[]⟩ hok hsm hS;have hln:=QB _ x (AD _) ⟨[],[]⟩;split
  ·split
   ·exact ⟨by simp only;omega,hcs⟩
   ·simp
  ·simp
 ·simp
theorem Sv{x:Sx}(hok:x.ok): -9223372036854775808<=Kq x/\Kq x<=9223372036854775807:=by
 obtain⟨kind,value,line,col,text,kids⟩:=x;simp only[Sx.ok]at hok;exact hok.2.1
theorem Xj{x:Sx}(hok:x.ok): -9223372036854775808<=(F8 x).1/\(F8 x).1<=9223372036854775807:=by
 unfold F8;cases Ax x==2 with
 |false=>simp
 |true=>exact Sv hok
theorem Xk{x:Sx}(hok:x.ok):(De x).1.size<=AJ:=by
 have h0:(⟨#[]⟩:ByteArray).size<=AJ:=by decide
 obtain⟨kind,value,line,col,text,kids⟩:=x;simp only[Sx.ok]at hok;have hk:=Sx.oks_iff.1 hok.2.2.2.2;unfold De;simp only[CA];rcases kids with _|⟨a,_|⟨n,rest⟩⟩
 ·exact h0
 ·exact h0
 ·simp only;cases Ax n==1 with
  |false=>exact h0
  |true=>
   cases An (Ah n)with
   |false=>exact h0
   |true=>exact OG (hk n (by simp))
def MA(a:Ac):Prop:=a.ok/\Q8 a
def MC(a:Du):Prop:=a.ok/\Q9 a
theorem L3:Bv.ok/\Bv.small:=Wv
theorem lS{n:ByteArray}(h:n.size<=AJ):MA (ED n):=
 ⟨⟨h,⟨by simp[ED,AJ],by simp[ED]⟩,by simp[ED],L3.1,⟨by simp[ED,AJ],by simp[ED]⟩⟩,⟨by simp[ED],L3.2,by simp[ED],by simp[ED]⟩⟩
theorem lT{n:ByteArray}(h:n.size<=AJ):MC (DI n):=
 ⟨⟨h,⟨by simp[DI,AJ],by simp[DI]⟩,by simp[DI],L3.1,L3.1,L3.1,⟨by simp[DI,AJ],by simp[DI]⟩,⟨by simp[DI,AJ],by simp[DI]⟩⟩,⟨by simp[DI],L3.2,L3.2,L3.2,⟨by simp[DI],by simp[DI]⟩,⟨by simp[DI],by simp[DI]⟩⟩⟩
theorem Hx{n:Nat}(h:n<=1048576):n<=AJ:=by unfold AJ;omega
theorem lU{a:Ac}(h:MA a){k:ByteArray}{v:Sx}(hok:v.ok)(hsm:v.small):MA (EC a k v).1:=by
 obtain⟨⟨h1,h2,h3,h4,h5⟩,⟨s1,s2,s3,s4⟩⟩:=h;unfold EC;cases A1 k Cb with
 |true=>have p:=Xh hok hsm;exact⟨⟨h1,⟨Hx p.1,p.2⟩,h3,h4,h5⟩,⟨p.1,s2,s3,s4⟩⟩
 |false=>
  cases A1 k Fs with
  |true=>exact⟨⟨h1,h2,Xj hok,h4,h5⟩,⟨s1,s2,s3,s4⟩⟩
  |false=>
   cases A1 k GL with
   |true=>have p:=SV hok;exact⟨⟨h1,h2,h3,p.1,h5⟩,⟨s1,p.2,s3,s4⟩⟩
   |false=>have p:=Xi hok;exact⟨⟨h1,h2,h3,h4,⟨Hx p.1,λc hc=>(p.2 c hc).1⟩⟩,⟨s1,s2,p.1,λc hc=>(p.2 c hc).2⟩⟩
theorem Xl: ∀ (l:List (ByteArray × Sx)){a:Ac},MA a->(∀ kv∈l,kv.2.ok/\kv.2.small)->MA (H5 a l).1
 |[],a,h,_=>h
 |kv::l,a,h,hl=>by
  have h1:=lU h (k:=kv.1) (hl kv (by simp)).1 (hl kv (by simp)).2;unfold H5;cases(EC a kv.1 kv.2).2==0 with
  |true=>exact Xl l h1 λq hq=>hl q (by simp[hq])
  |false=>exact h1
theorem lV{a:Du}(h:MC a){k:ByteArray}{v:Sx}(hok:v.ok)(hsm:v.small):MC (DE a k v).1:=by
 obtain⟨⟨h1,h2,h3,h4,h5,h6,h7,h8⟩,⟨s1,s2,s3,s4,s5,s6⟩⟩:=h;unfold DE;cases A1 k Cb with
 |true=>have p:=Xh hok hsm;exact⟨⟨h1,⟨Hx p.1,p.2⟩,h3,h4,h5,h6,h7,h8⟩,⟨p.1,s2,s3,s4,s5,s6⟩⟩
 |false=>
  cases A1 k EX with
  |true=>exact⟨⟨h1,h2,Xj hok,h4,h5,h6,h7,h8⟩,⟨s1,s2,s3,s4,s5,s6⟩⟩
  |false=>
   have p:=SV hok;have e:=Xi hok;cases A1 k Eo with
   |true=>exact⟨⟨h1,h2,h3,p.1,h5,h6,h7,h8⟩,⟨s1,p.2,s3,s4,s5,s6⟩⟩
   |false=>
    cases A1 k F6 with
    |true=>exact⟨⟨h1,h2,h3,h4,p.1,h6,h7,h8⟩,⟨s1,s2,p.2,s4,s5,s6⟩⟩
    |false=>
     cases A1 k FL with
     |true=>exact⟨⟨h1,h2,h3,h4,h5,p.1,h7,h8⟩,⟨s1,s2,s3,p.2,s5,s6⟩⟩
     |false=>
      cases A1 k Fg with
      |true=>exact⟨⟨h1,h2,h3,h4,h5,h6,⟨Hx e.1,λc hc=>(e.2 c hc).1⟩,h8⟩,⟨s1,s2,s3,s4,⟨e.1,λc hc=>(e.2 c hc).2⟩,s6⟩⟩
      |false=>exact⟨⟨h1,h2,h3,h4,h5,h6,h7,⟨Hx e.1,λc hc=>(e.2 c hc).1⟩⟩,⟨s1,s2,s3,s4,s5,⟨e.1,λc hc=>(e.2 c hc).2⟩⟩⟩
theorem Xm: ∀ (l:List (ByteArray × Sx)){a:Du},MC a->(∀ kv∈l,kv.2.ok/\kv.2.small)->MC (H7 a l).1
 |[],a,h,_=>h
 |kv::l,a,h,hl=>by
  have h1:=lV h (k:=kv.1) (hl kv (by simp)).1 (hl kv (by simp)).2;unfold H7;cases(DE a kv.1 kv.2).2==0 with
  |true=>exact Xm l h1 λq hq=>hl q (by simp[hq])
  |false=>exact h1
theorem Sw: ∀ (l:List Sx)(kws:List ByteArray), ∀ kv∈(CE l kws).1,kv.2∈l
 |[],_,kv,h=>by simp[CE]at h
 |[_],_,kv,h=>by simp[CE]at h
 |a::v::rest,kws,kv,h=>by
  simp only[CE]at h;cases k:Ax a==1 with
  |false=>rw[k]at h;simp at h
  |true=>
   rw[k,AB]at h;cases ha:IK kws (Ah a)with
   |none=>rw[ha]at h;simp at h
   |some k'=>
    rw[ha]at h;simp only[D7]at h;rcases h with rfl|h
    ·simp
    ·have:=Sw rest k' kv h;simp[this]
theorem Sy{x:Sx}(hok:x.ok)(hsm:x.small): ∀ k∈CA x,k.ok/\k.small:=by
 obtain⟨kind,value,line,col,text,kids⟩:=x;simp only[Sx.ok]at hok;simp only[Sx.small]at hsm;exact λk hk=>⟨Sx.oks_iff.1 hok.2.2.2.2 k hk,Sx.smalls_iff.1 hsm.2 k hk⟩
theorem lW{x:Sx}(hok:x.ok)(hsm:x.small):MA (H6 x).1:=by
 have h0:=lS (Xk hok);have hk:=Sy hok hsm;have hp:=Xl (CE ((CA x).drop 2) IT).1 h0 (λkv hkv=>hk _ (Od (Sw _ _ kv hkv)));unfold H6;cases(De x).2==0 with
 |false=>exact h0
 |true=>
  simp only[AB];cases(H5 (ED (De x).1) (CE ((CA x).drop 2) IT).1).2==0<;>exact hp
theorem lX{x:Sx}(hok:x.ok)(hsm:x.small):MC (H8 x).1:=by
 have h0:=lT (Xk hok);have hk:=Sy hok hsm;have hp:=Xm (CE ((CA x).drop 2) IU).1 h0 (λkv hkv=>hk _ (Od (Sw _ _ kv hkv)));unfold H8;cases(De x).2==0 with
 |false=>exact h0
 |true=>
  simp only[AB];cases(H7 (DI (De x).1) (CE ((CA x).drop 2) IU).1).2==0<;>exact hp
def Oa(p:Pr):Prop:=p.ok/\p.params.length<=1048576
def Ob(p:Fu):Prop:=p.ok/\p.params.length<=1048576
theorem Xn:Oa Kz:=⟨⟨by decide,by simp[Kz,AJ],by simp[Kz]⟩,by simp[Kz]⟩
theorem QS:Ob Hw:=⟨⟨by decide,⟨by simp[Hw,AJ],by simp[Hw]⟩,by simp[Hw],by simp[Hw]⟩,by simp[Hw]⟩
theorem lY{x:Sx}(hok:x.ok)(hsm:x.small):Oa (HT x).1:=by
 unfold HT;cases hD:Bd x with
 |none=>exact Xn
 |some wl=>
  obtain⟨w,l⟩:=wl;obtain⟨h1,h2,h3⟩:=Ku hok hsm hD;simp only;cases An w with
  |false=>exact Xn
  |true=>have:=OP true l;exact⟨⟨h1,⟨Hx (EE this h2),OZ h3⟩⟩,EE this h2⟩
theorem lZ{x:Sx}(hok:x.ok)(hsm:x.small):Ob (HU x).1:=by
 unfold HU;cases hD:Bd x with
 |none=>exact QS
 |some wl=>
  obtain⟨w,l⟩:=wl;obtain⟨h1,h2,h3⟩:=Ku hok hsm hD;simp only;split
  ·rename_i lo hi he;have m1:lo∈l:=Od (by rw[he];simp);have m2:hi∈l:=Od (by rw[he];simp);cases Ax lo==2&&Ax hi==2 with
   |false=>exact QS
   |true=>
    simp only[AB];cases An w with
    |false=>exact QS
    |true=>
     have h4:=OP true (l.take (l.length-2));rw[HX]at h4;have h5:(Bt true (l.take (l.length-2))).1.length<=1048576:=(by omega);exact⟨⟨h1,⟨Hx h5,OZ λy hy=>h3 y (Y7 hy)⟩,Sv (h3 lo m1),Sv (h3 hi m2)⟩,h5⟩
  ·exact QS
theorem Xo: ∀ (l:List Sx)(p:List Pr),(∀ x∈l,x.ok/\x.small)->(∀ q∈p,Oa q)->(∀ q∈(GP p l).1,Oa q)/\(GP p l).1.length<=p.length+l.length
 |[],p,_,hp=>⟨hp,by simp[GP]⟩
 |x::l,p,hl,hp=>by
  have h1:=lY (hl x (by simp)).1 (hl x (by simp)).2;unfold GP;cases(HT x).2==0 with
  |false=>exact⟨hp,by simp⟩
  |true=>
   have:=Xo l (p++[(HT x).1]) (λy hy=>hl y (by simp[hy])) (λq hq=>by
    rcases DY.1 hq with hq|hq
    ·exact hp q hq
    ·simp only[GV]at hq;subst hq;exact h1)
   simp only[DZ,Aw,Bw]at this;exact⟨this.1,by simp only[AB,Aw];omega⟩
theorem Xp: ∀ (l:List Sx)(p:List Fu),(∀ x∈l,x.ok/\x.small)->(∀ q∈p,Ob q)->(∀ q∈(GQ p l).1,Ob q)/\(GQ p l).1.length<=p.length+l.length
 |[],p,_,hp=>⟨hp,by simp[GQ]⟩
 |x::l,p,hl,hp=>by
  have h1:=lZ (hl x (by simp)).1 (hl x (by simp)).2;unfold GQ;cases(HU x).2==0 with
  |false=>exact⟨hp,by simp⟩
  |true=>
   have:=Xp l (p++[(HU x).1]) (λy hy=>hl y (by simp[hy])) (λq hq=>by
    rcases DY.1 hq with hq|hq
    ·exact hp q hq
    ·simp only[GV]at hq;subst hq;exact h1)
   simp only[DZ,Aw,Bw]at this;exact⟨this.1,by simp only[AB,Aw];omega⟩
structure GS(d:Dm)(n:Nat):Prop where
 name:d.name.size<=AJ
 types:d.types.length<=1048576/\ ∀ p∈d.types,p.ok
 consts:d.constants.length<=1048576/\ ∀ p∈d.constants,p.ok
 preds:d.predicates.length+n<=1048576/\ ∀ p∈d.predicates,Oa p
 funs:d.functions.length+n<=1048576/\ ∀ p∈d.functions,Ob p
 acts:d.actions.length+n<=1048576/\ ∀ p∈d.actions,MA p
 durs:d.duratives.length+n<=1048576/\ ∀ p∈d.duratives,MC p
theorem GS.ok{d:Dm}{n:Nat}(h:GS d n):d.ok:=by
 obtain⟨h1,h2,h3,h4,h5,h6,h7⟩:=h;exact⟨h1,⟨Hx h2.1,h2.2⟩,⟨Hx h3.1,h3.2⟩,⟨Hx (by omega),λp hp=>(h4.2 p hp).1⟩,⟨Hx (by omega),λp hp=>(h5.2 p hp).1⟩,⟨Hx (by omega),λp hp=>(h6.2 p hp).1⟩,⟨Hx (by omega),λp hp=>(h7.2 p hp).1⟩⟩
theorem GS.sm{d:Dm}{n:Nat}(h:GS d n):QE d:=by
 obtain⟨h1,h2,h3,h4,h5,h6,h7⟩:=h;exact⟨h2.1,h3.1,⟨by omega,λp hp=>(h4.2 p hp).2⟩,⟨by omega,λp hp=>(h5.2 p hp).2⟩,⟨by omega,λp hp=>(h6.2 p hp).2⟩,⟨by omega,λp hp=>(h7.2 p hp).2⟩⟩
theorem GS.mono{d:Dm}{n m:Nat}(h:GS d n)(hm:m<=n):GS d m:=by
 obtain⟨h1,h2,h3,h4,h5,h6,h7⟩:=h;exact⟨h1,h2,h3,⟨by omega,h4.2⟩,⟨by omega,h5.2⟩,⟨by omega,h6.2⟩,⟨by omega,h7.2⟩⟩
theorem Sz{x:Sx}(hok:x.ok)(hsm:x.small){w:ByteArray}{l:List Sx}(h:Bd x=some (w,l)):(∀ y∈l,y.ok/\y.small)/\l.length<x.nodes:=by
 have hk:=Sy hok hsm;obtain⟨kind,value,line,col,text,kids⟩:=x;obtain⟨y,rfl,_,_⟩:=N3 h;refine⟨λz hz=>hk z (by simp[CA,hz]),?_⟩;have hl: ∀ l:List Sx,l.length<=Sx.nodess l:=λl=>by
  induction l with
  |nil=>simp
  |cons a l ih=>have:=Sx.nodes_pos a;simp only[Aw,Sx.nodess];omega
 have:=hl l;have:=Sx.nodes_pos y;simp only[Sx.nodes,Sx.nodess];omega
theorem Xq{d:Dm}{n:Nat}{w:ByteArray}{rest:List Sx}{x:Sx}(hok:x.ok)(hsm:x.small)(hD:Bd x=some (w,rest))(h:GS d (n+x.nodes)):GS (Cu d w rest x).1 n:=by
 obtain⟨hb,hln⟩:=Sz hok hsm hD;obtain⟨_,hl,hlo⟩:=Ku hok hsm hD;have h':=h.mono (Oh n x.nodes);obtain⟨h1,h2,h3,h4,h5,h6,h7⟩:=h;obtain⟨g1,g2,g3,g4,g5,g6,g7⟩:=h';have hpl:=OP false rest;unfold Cu;cases A1 w Gk with
 |true=>exact⟨g1,g2,g3,g4,g5,g6,g7⟩
 |false=>
  cases A1 w DV with
  |true=>exact⟨g1,⟨EE hpl hl,OZ hlo⟩,g3,g4,g5,g6,g7⟩
  |false=>
   cases A1 w DW with
   |true=>exact⟨g1,g2,⟨EE hpl hl,OZ hlo⟩,g4,g5,g6,g7⟩
   |false=>
    cases A1 w DX with
    |true=>have p:=Xo rest d.predicates hb h4.2;exact⟨g1,g2,g3,⟨by show(GP d.predicates rest).1.length+n<=_;omega,p.1⟩,g5,g6,g7⟩
    |false=>
     cases A1 w DP with
     |true=>have p:=Xp rest d.functions hb h5.2;exact⟨g1,g2,g3,g4,⟨by show(GQ d.functions rest).1.length+n<=_;omega,p.1⟩,g6,g7⟩
     |false=>
      cases A1 w Dl with
      |true=>
       have p:=lW hok hsm;refine⟨g1,g2,g3,g4,g5,⟨by show(d.actions++[(H6 x).1]).length+n<=_;simp;omega,λq hq=>?_⟩,g7⟩;rcases DY.1 hq with hq|hq
       ·exact h6.2 q hq
       ·simp only[GV]at hq;subst hq;exact p
      |false=>
       cases A1 w En with
       |true=>
        have p:=lX hok hsm;refine⟨g1,g2,g3,g4,g5,g6,⟨by show(d.duratives++[(H8 x).1]).length+n<=_;simp;omega,λq hq=>?_⟩⟩;rcases DY.1 hq with hq|hq
        ·exact h7.2 q hq
        ·simp only[GV]at hq;subst hq;exact p
       |false=>exact⟨g1,g2,g3,g4,g5,g6,g7⟩
theorem Xr: ∀ (l:List Sx)(d:Dm)(seen:List ByteArray),(∀ x∈l,x.ok/\x.small)->GS d (Sx.nodess l)->GS (JX d seen l).1 0
 |[],d,seen,_,h=>h.mono (Bx _)
 |k::l,d,seen,hl,h=>by
  have hk:=hl k (by simp);simp only[Sx.nodess]at h;have hs:GS (Ep d seen k).1 (Sx.nodess l):=by
   unfold Ep;cases hD:Bd k with
   |none=>exact h.mono (by omega)
   |some wr=>
    obtain⟨w,rest⟩:=wr;have:=Xq (n:=Sx.nodess l) hk.1 hk.2 hD (by rw[TG];exact h);simp only;cases N7.any (A1 w)with
    |false=>exact this
    |true=>
     simp only[AB];cases seen.any (A1 w)with
     |true=>exact h.mono (by omega)
     |false=>exact this
  unfold JX;cases(Ep d seen k).2.2==0 with
  |false=>exact hs.mono (Bx _)
  |true=>exact Xr l _ _ (λx hx=>hl x (by simp[hx])) hs
theorem MD{n:Nat}(hn:n<=1048576):GS F9 n:=
 ⟨by decide,by simp[F9],by simp[F9],⟨by simp[F9];omega,by simp[F9]⟩,⟨by simp[F9];omega,by simp[F9]⟩,⟨by simp[F9];omega,by simp[F9]⟩,⟨by simp[F9];omega,by simp[F9]⟩⟩
theorem T0{n:Nat}{s:ByteArray}(hs:s.size<=AJ)(hn:n<=1048576):GS (H9 s) n:=
 ⟨hs,by simp[H9],by simp[H9],⟨by simp[H9];omega,by simp[H9]⟩,⟨by simp[H9];omega,by simp[H9]⟩,⟨by simp[H9];omega,by simp[H9]⟩,⟨by simp[H9];omega,by simp[H9]⟩⟩
theorem Xt{x:Sx}{want:ByteArray}(hok:x.ok):(HN x want).1.size<=AJ:=by
 have h0:(⟨#[]⟩:ByteArray).size<=AJ:=by decide
 unfold HN;cases hD:Bd x with
 |none=>exact h0
 |some wr=>
  obtain⟨w,rest⟩:=wr;simp only;cases A1 w want with
  |false=>exact h0
  |true=>
   simp only[AB]
   match rest,hD with
   |[],_=>exact h0
   |[r],hD=>
    simp only;obtain⟨kind,value,line,col,text,kids⟩:=x;obtain⟨y,rfl,_,_⟩:=N3 hD;simp only[Sx.ok]at hok;have hr:=Sx.oks_iff.1 hok.2.2.2.2 r (by simp);cases Ax r==1 with
    |false=>exact h0
    |true=>
     cases An (Ah r)with
     |false=>exact h0
     |true=>exact OG hr
   |_::_::_,_=>exact h0
theorem Xu{x:Sx}(hok:x.ok)(hsm:x.small)(hn:x.nodes<=4096):GS (JY x).1 0:=by
 unfold JY;cases hD:Bd x with
 |none=>exact MD (by omega)
 |some wr=>
  obtain⟨w,rest⟩:=wr;simp only;cases A1 w GN with
  |false=>exact MD (by omega)
  |true=>
   simp only[AB];cases rest with
   |nil=>exact MD (by omega)
   |cons n secs=>
    simp only;have hb:=Sz hok hsm hD;have hnd:Sx.nodess secs<=x.nodes:=by
     obtain⟨kind,value,line,col,text,kids⟩:=x;obtain⟨y,rfl,_,_⟩:=N3 hD;simp only[Sx.nodes,Sx.nodess];omega
    cases(HN n E1).2==0 with
    |false=>exact MD (by omega)
    |true=>exact Xr secs _ _ (λy hy=>hb.1 y (by simp[hy])) (T0 (Xt (hb.1 n (by simp)).1) (by omega))
theorem lb{x:Sx}(hok:x.ok):GS (HA x).1 0:=by
 unfold HA;split
 ·rename_i v;have hnd:=((JK x 0 0 (by omega) (by omega)).1.1 v).2.2;split
  ·split
   ·exact Xu hok (Kf v) (by omega)
   ·exact MD (by omega)
  ·exact MD (by omega)
 ·exact MD (by omega)
set_option maxHeartbeats 8000000
abbrev ME:List PV:=[.sc (.string ⟨#[]⟩),.sc (.slice none 0 0),.sc (.slice none 0 0),.sc (.slice none 0 0),.sc (.slice none 0 0),.sc (.slice none 0 0),.sc (.slice none 0 0)]
def IV(l:List ByteArray):List (Value × PV):=l.map λw=>(.string w,.sc (.bool true))
theorem NX(a b:ByteArray):(a==b)=A1 a b:=by
 obtain⟨a⟩:=a;obtain⟨b⟩:=b;show(a==b)=(a.toList==b.toList);rw[YG,Dv,Dv];exact Array.toList_inj.symm
theorem Xv(w:ByteArray): ∀ l:List ByteArray,HZ (.string w) (IV l)=some (bif l.any (A1 w)then some (.sc (.bool true))else none)
 |[]=>rfl
 |a::l=>by
  have ih:=Xv w l;simp only[IV]at ih;simp only[IV,BS,HZ,I2,NX,TI];cases A1 w a with
  |true=>rfl
  |false=>simpa using ih
theorem Xw{w:ByteArray}: ∀ {l:List ByteArray},l.any (A1 w)=false->I3 (.string w) (.sc (.bool true)) (IV l)=some (IV (l++[w]))
 |[],_=>rfl
 |a::l,h=>by
  simp only[TI,TC]at h;have ih:=Xw h.2;simp only[IV]at ih;simp only[IV,BS,I3,I2,NX,h.1,C3];rw[ih];try rfl
theorem ld(l:List ByteArray)(w:ByteArray):decide (HI l w>=0)=l.any (A1 w):=by
 unfold HI;cases h:l.findIdx? (λv=>A1 w v)with
 |none=>
  rw[Qc]at h;have:l.any (A1 w)=false:=by rw[List.any_eq_false];intro x hx;simp[h x hx]
  rw[this];decide
 |some i=>
  have h2:=List.findIdx?_eq_some_iff_findIdx_eq.1 h;have:l.any (A1 w)=true:=by
   rw[List.any_eq_true];have hi:=h2.1;exact⟨l[i],QV hi,by have:=h2.2;subst this;exact List.findIdx_getElem⟩
  rw[this];simp
theorem Xx: ∀ l:List Sx,l.length<=Sx.nodess l
 |[]=>Bx _
 |a::l=>by have:=Xx l;have:=Sx.nodes_pos a;simp only[Aw,Sx.nodess];omega
structure Gl(h:A0)(d:Dm)(seen:List ByteArray)(H:A0):Prop where
 ex: ∃ h0:A0,AC h h0/\h0.obj h.next=some (.arr 7 [ME])/\h0.obj (h.next+2)=some (.map (IV seen.reverse))/\h.next+2<h0.next/\DF h0 (h.next+1) d H
theorem Gl.tmp{h H:A0}{d:Dm}{seen:List ByteArray}(i:Gl h d seen H)(o o':Ab):Gl h d seen (Ge H o o'):=by
 obtain⟨h0,g,o1,o2,l,di⟩:=i;exact⟨h0,g,o1,o2,l,di.tmp o o'⟩
theorem Gl.facts{h H:A0}{d:Dm}{seen:List ByteArray}(i:Gl h d seen H):AC h H/\H.obj h.next=some (.arr 7 [ME])/\H.obj (h.next+2)=some (.map (IV seen.reverse)):=by
 obtain⟨h0,g,o1,o2,l,di⟩:=i;have gy:=di.grow;refine⟨⟨EE g.le gy.le,λj hj=>(gy.old j (by have:=g.le;omega) (by omega)).trans (g.old j hj)⟩,(gy.old _ (by omega) (by omega)).trans o1,(gy.old _ l (by omega)).trans o2⟩
theorem Gl.decl{h H:A0}{d:Dm}{seen:List ByteArray}(i:Gl h d seen H)(w:ByteArray):Gl h d (w::seen) (H.set (h.next+2) (.map (IV (seen.reverse++[w])))):=by
 obtain⟨h0,g,o1,o2,l,di⟩:=i;obtain⟨gy,idl,t,c,p,f,a,u,e0,e1,e2,e3,e4,e5,e6⟩:=di;refine⟨h0.set (h.next+2) (.map (IV (seen.reverse++[w]))),g.set (by omega) _,(Av (by omega)).trans o1,?_,l,⟨gy.le,λj hj hne=>?_⟩,⟨idl.1,idl.2⟩,t,c,p,f,a,u,(Av (by omega)).trans e0,e1,e2,e3.mid l _,e4.mid l _,e5.mid l _,e6.mid l _⟩
 ·rw [List.reverse_cons];exact Cy
 ·by_cases hj2:j=h.next+2
  ·subst hj2;rw[Cy,Cy]
  ·rw [Av hj2,Av hj2];exact gy.old j hj hne
theorem Xy{n:Nat}{H:A0}: ∀ {rows:List (List PV)},(∀ r∈rows,AL n H r r)->Cr n H rows rows
 |[],_=>by simp only[Cr]
 |r::rows,h=>by
  simp only[Cr];exact⟨h r (by simp),Xy λq hq=>h q (by simp[hq])⟩
theorem CP{n:Nat}{H:A0}{p q:PV}{l m:List PV}(h:AF n H p q)(h2:AL n H l m):AL n H (p::l) (q::m):=by
 unfold AL;exact⟨h,h2⟩
theorem K9{n:Nat}{H:A0}:AL n H [] []:=by simp only[AL]
theorem lf(n:Nat)(H:A0)(p:Pr):AL n H (FE p) (FE p):=CP BX (CP (B3 (Bu _ _)) K9)
theorem lg(n:Nat)(H:A0)(p:Fu):AL n H (FF p) (FF p):=CP BX (CP (B3 (Bu _ _)) (CP BX (CP BX K9)))
theorem QT{n:Nat}{H:A0}(f:Fm){l:List PV}(h:AL n H l l):AL n H (f.cells++l) (f.cells++l):=by
 obtain⟨op,na,ar,pa,ex,ki⟩:=f;simp only[Fm.cells,C3,Au];exact CP BX (CP BX (CP (B3 (DO _ _)) (CP (B3 (Bu _ _)) (CP (B3 (Dq _ _)) (CP (B3 (EO _ _)) h)))))
theorem lh(n:Nat)(H:A0)(a:Ac):AL n H (FG a) (FG a):=by
 unfold FG;exact CP BX (CP (B3 (Bu _ _)) (CP BX (QT _ (CP (B3 (Gi _ _)) K9))))
theorem ln(n:Nat)(H:A0)(a:Du):AL n H (FH a) (FH a):=by
 unfold FH;exact CP BX (CP (B3 (Bu _ _)) (CP BX (QT _ (QT _ (QT _ (CP (B3 (Gi _ _)) (CP (B3 (Gi _ _)) K9)))))))
theorem QU{α:Type}(f:α->List PV)(hf: ∀ n H a,AL n H (f a) (f a))(n:Nat)(H:A0)(l:List α):Cr n H (l.map f) (l.map f):=Xy λr hr=>by
 rw[Er]at hr;obtain⟨a,_,rfl⟩:=hr;exact hf n H a
theorem Xz(n:Nat): ∀ l:List Pr,B1 n (Bj l)
 |[]=>by simp only[Bj,B5,B1]
 |p::l=>by
  have:=Xz n l;simp only[Bj,BS,B1]at this⊢;refine⟨?_,this⟩;simp only[FE,BT,BB,FQ,Da];exact Bu _ _
theorem Y0(n:Nat): ∀ l:List Fu,B1 n (Bh l)
 |[]=>by simp only[Bh,B5,B1]
 |p::l=>by
  have:=Y0 n l;simp only[Bh,BS,B1]at this⊢;refine⟨?_,this⟩;simp only[FF,BT,BB,FQ,Da];exact Bu _ _
theorem Y1(n:Nat): ∀ l:List Ac,B1 n (Bm l)
 |[]=>by simp only[Bm,B5,B1]
 |⟨an,ap,ac,⟨gop,gna,gar,gpa,gex,gki⟩,ch⟩::l=>by
  have:=Y1 n l;simp only[Bm,BS,B1]at this⊢;refine⟨?_,this⟩;simp only[FG,Fm.cells,C3,Au,BT,BB,FQ,Da];exact⟨Bu _ _,DO _ _,Bu _ _,Dq _ _,EO _ _,Gi _ _⟩
theorem Y2(n:Nat): ∀ l:List Du,B1 n (Bn l)
 |[]=>by simp only[Bn,B5,B1]
 |⟨an,ap,ac,⟨gop,gna,gar,gpa,gex,gki⟩,⟨kop,kna,kar,kpa,kex,kki⟩,⟨lop,lna,lar,lpa,lex,lki⟩,ch,cb⟩::l=>by
  have:=Y2 n l;simp only[Bn,BS,B1]at this⊢;refine⟨?_,this⟩;simp only[FH,Fm.cells,C3,Au,BT,BB,FQ,Da];exact⟨Bu _ _,DO _ _,Bu _ _,Dq _ _,EO _ _,DO _ _,Bu _ _,Dq _ _,EO _ _,DO _ _,Bu _ _,Dq _ _,EO _ _,Gi _ _,Gi _ _⟩
theorem lp(n:Nat)(H:A0)(d:Dm):AL n H d.cells d.cells:=
 CP BX (CP (B3 (Bu _ _)) (CP (B3 (Bu _ _)) (CP (B3 (Xz _ _)) (CP (B3 (Y0 _ _)) (CP (B3 (Y1 _ _)) (CP (B3 (Y2 _ _)) K9))))))
theorem Gl.drop{h H:A0}{d:Dm}{seen:List ByteArray}(i:Gl h d seen H):AF (h.next+1) H (.cptr d.cells) (.ptr (h.next+1) 0 0):=by
 obtain⟨h0,g,o1,o2,l,di⟩:=i;obtain⟨gy,idl,t,c,p,f,a,u,e0,e1,e2,e3,e4,e5,e6⟩:=di;simp only[AF];refine .inr ⟨h.next+1,0,0,7,_,_,rfl,AD _,e0,rfl,?_⟩;exact CP BX (CP (e1.frz H (Bu _ _)) (CP (e2.frz H (Bu _ _)) (CP (e3.frzR (by omega) (QU FE lf _ _ _)) (CP (e4.frzR (by omega) (QU FF lg _ _ _)) (CP (e5.frzR (by omega) (QU FG lh _ _ _)) (CP (e6.frzR (by omega) (QU FH ln _ _ _)) K9))))))
theorem lq{n:Nat}{H:A0}{d:Dm}{c:Int}{u:PV}(hc:AO c=u):AF n H (.tup [.agg d.cells,AO c]) (.tup [.agg d.cells,u]):=by
 subst hc;obtain⟨u,hu⟩:=Df c;rw[hu];unfold AF;refine⟨_,rfl,CP ?_ (CP BX K9)⟩;unfold AF;exact⟨_,rfl,lp n H d⟩
theorem KA{h H:A0}{X:Ab}{F:Dm × Int}{c:Int}{u:PV}(hF:F=(F9,c))(hu:AO c=u)(g:AC h H):AF h.next (H.set h.next X) (.tup [.agg F.1.cells,AO F.2]) (.tup [.agg ME,u])/\AC h (H.set h.next X):=by
 subst hF;subst hu;obtain⟨u,hu⟩:=Df c;simp only[hu];refine⟨?_,g.set (AD _) _⟩;have hn: ∀ (z:Nat)(H:A0),AF h.next H (.imm z []) (.sc (.slice none 0 0)):=λz H=>by simp only[AF];exact .inr (.inl ⟨trivial,.inr A3⟩)
 unfold AF;refine⟨_,rfl,CP ?_ (CP BX K9)⟩;unfold AF;exact⟨_,rfl,CP BX (CP (hn _ _) (CP (hn _ _) (CP (hn _ _) (CP (hn _ _) (CP (hn _ _) (CP (hn _ _) K9))))))⟩
theorem Y3{x:Sx}(hok:x.ok)(h:A0):A6 prog 22 [.agg x.cells] h λr h'=>r= .tup [.agg (HA x).1.cells,AO (HA x).2]/\h'=h:=by
 refine A6.frz Ty.La ?_;have hV:=λh:A0=>JI (x:=x) hok h;have hb:=Ly hok;generalize hF:HA x=F;unfold HA at hF;cases v:(CL x 0 0).1 with
 |false=>
  rw[v,A4 (by simp)]at hF;rw[v]at hV
  clear hb;obtain⟨kind,value,line,col,text,kids⟩:=x;simp only[Sx.cells]at hV⊢;refine AE func22 ntmps22 results22 Ty.La ?_;refine wt A3 ?_;refine uU yF (hV _) ?_;refine wt yF ?_;exact KA hF.symm rfl ((AC.refl h).new _)
 |true=>
  rw[v,AG rfl]at hF;rw[v]at hV;have hsm:=Kf v;have hnd:=((JK x 0 0 (by omega) (by omega)).1.1 v).2.2;have hdo:=Xu hok hsm (by omega);have hO:=λw l=>Sz hok hsm (w:=w) (l:=l);generalize hP:JY x=P at hF hdo;obtain⟨d,c⟩:=P;simp only at hF hdo;unfold JY at hP;have hFE:¬ c=0->F=(F9,c):=λhc=>by rw[A4 hc]at hF;exact hF.symm
  obtain⟨kind,value,line,col,text,kids⟩:=x;generalize hD:Bd (.mk kind value line col text kids)=D at hP hb hO;cases D with
  |none=>
   simp only[Ar]at hP;obtain⟨_,rfl⟩:=hP;simp only[Sx.cells,MN]at hV hb⊢;refine AE func22 ntmps22 results22 Ty.La ?_;refine wt A3 ?_;refine uU yT (hV _) ?_;refine wt yT ?_;refine uU yF (hb _) ?_;refine wt yF ?_;exact KA (hFE (by decide)) rfl ((AC.refl h).new _)
  |some wl=>
   obtain⟨w,l⟩:=wl;obtain⟨hlb,_⟩:=hO w l rfl;obtain⟨yk,yv,yl,yc,ys,hkd,r0,q0,q1,ht,hws,hrl⟩:=N9 hok hD;simp only at hP;simp only[Sx.cells,NL]at hV hb⊢;cases q2:(w.data.toList==(#[100,101,102,105,110,101]:Array UInt8).toList)with
   |false=>
    have q2':(w.data.toList !=(#[100,101,102,105,110,101]:Array UInt8).toList)=true:=(by simpa[bne]using q2);rw[show A1 w GN=false from q2]at hP;simp only[AI,Ar]at hP;obtain⟨_,rfl⟩:=hP;generalize Sx.rows kids=R at r0 q0 hV hb⊢;refine AE func22 ntmps22 results22 Ty.La ?_;refine wt A3 ?_;replace zz:=As yT r0 q0 q2 q2';refine uU zz (hV _) ?_;refine wt zz ?_;replace zz:=As yT r0 q0 q2 q2';refine uU zz (hb _) ?_;refine wt zz ?_;exact KA (hFE (by decide)) rfl ((AC.refl h).new _)
   |true=>
    have q2':(w.data.toList !=(#[100,101,102,105,110,101]:Array UInt8).toList)=false:=(by simpa[bne]using q2);rw[show A1 w GN=true from q2]at hP;simp only[AB]at hP;cases l with
    |nil=>
     simp only[Ar]at hP;obtain⟨_,rfl⟩:=hP;have q3:decide (((Sx.rows kids).length:Int)<2)=true:=(by rw[hrl];simp);generalize Sx.rows kids=R at r0 q0 q3 hV hb⊢;refine AE func22 ntmps22 results22 Ty.La ?_;refine wt A3 ?_;replace zz:=Aq yT r0 q0 q2 q2' q3;refine uU zz (hV _) ?_;refine wt zz ?_;replace zz:=Aq yT r0 q0 q2 q2' q3;refine uU zz (hb _) ?_;refine wt zz ?_;exact KA (hFE (by decide)) rfl ((AC.refl h).new _)
    |cons n secs=>
     simp only at hP;have q3:decide (((Sx.rows kids).length:Int)<2)=false:=(by rw[hrl];simp;omega);have q4:((1:Int)<((Sx.rows kids).length:Int))=True:=Db (by rw[hrl];simp;omega);have q5:(2:Int)<=((Sx.rows kids).length:Int):=(by rw[hrl];simp;omega);have r1:(Sx.rows kids)[1]? =some n.cells:=(by rw[hkd];exact Sx.rows_get rfl);have ht2:List.take (((Sx.rows kids).length:Int)-2).toNat (List.drop 2 (Sx.rows kids))=Sx.rows secs:=by
      rw[hkd];simp only[Sx.rows,GW,CB,Aw];rw[DQ (by omega)]
     have hsl:(Sx.rows secs).length=secs.length:=Sx.rows_len secs;have hno:=hlb n (by simp);have hsb: ∀ y∈secs,y.ok/\y.small:=λy hy=>hlb y (by simp[hy]);have hsn:Sx.nodess secs<=4096:=by
      rw[hkd]at hnd;simp only[Sx.nodes,Sx.nodess]at hnd;omega
     have hsl2:secs.length<=4096:=EE (Xx secs) hsn;have hn:=λh:A0=>l7 hno.1 h;have hnk:=Xt (want:=E1) hno.1;generalize hR:Sx.rows kids=R at r0 q0 q3 q4 q5 r1 ht2 hV hb⊢;clear hD hO hkd hok hsm ht hrl hlb hR hnd;generalize HN n E1=N at hP hn hnk;obtain⟨na,cn⟩:=N;simp only at hP hn hnk;obtain⟨nk,nv,nl,nc,nt,ns⟩:=n;simp only[Sx.cells]at r1 hn;have n1:(h.next=h.next+1)=False:=B4 (by omega);cases hcn:cn==0 with
     |false=>
      rw[hcn]at hP;simp only[AI,Ar]at hP;obtain⟨_,rfl⟩:=hP;have er:AO cn=Aj cn:=(by simp only[AO,hcn,AI]);rw[er]at hn;simp only[Aj]at hn;refine AE func22 ntmps22 results22 Ty.La ?_;refine wt A3 ?_;replace zz:=Aq yT r0 q0 q2 q2' q3;refine uU zz (hV _) ?_;refine wt zz ?_;replace zz:=Aq yT r0 q0 q2 q2' q3;refine uU zz (hb _) ?_;replace zz:=BO yT r0 q0 q2 q2' q3 q4 r1;refine wt zz ?_;refine uU (AV q4 r1 n1) (hn _) ?_;refine wt n1 ?_;exact KA (hFE (by simpa using hcn)) er ((((AC.refl h).new _).new _).set (by omega) _)
     |true=>
      rw[hcn]at hP;simp only[AB]at hP;have er:AO cn= .sc .nilIface:=(by simp only[AO,hcn,AB]);rw[er]at hn;refine AE func22 ntmps22 results22 Ty.La ?_;refine wt A3 ?_;replace zz:=Aq yT r0 q0 q2 q2' q3;refine uU zz (hV _) ?_;refine wt zz ?_;replace zz:=Aq yT r0 q0 q2 q2' q3;refine uU zz (hb _) ?_;replace zz:=BO yT r0 q0 q2 q2' q3 q4 r1;refine wt zz ?_;refine uU (AV q4 r1 n1) (hn _) ?_;refine xG 9 n1 ?_;refine⟨?_⟩;refine Cj (λS H=>S 1= .cptr [.sc (.int .i64 kind),.sc (.int .i64 value),.sc (.int .i64 line),.sc (.int .i64 col),A2 text,.imm 6 R]/\S 2= .ptr h.next 0 0/\S 4= .ptr (h.next+1) 0 0/\S 6= .mp (h.next+2)/\Gl h (H9 na) [] H) ?_ ?_
      ·refine ⟨sq A3,sq A3,sq A3,by simp only[Ty.w,simprocAttr]<;>rfl,⟨(((h.new (.arr 7 [ME])).new (.arr 7 [ME])).set (h.next+1) (.arr 7 [[A2 na,.sc (.slice none 0 0),.sc (.slice none 0 0),.sc (.slice none 0 0),.sc (.slice none 0 0),.sc (.slice none 0 0),.sc (.slice none 0 0)]])).new (.map []),((((AC.refl h).new _).new _).set (by omega) _).new _,?_,?_,?_,⟨⟨AD _,λj _ _=>rfl⟩,⟨by simp only[A0.new,A0.set];omega,by simp only[A0.new,A0.set];omega⟩,_,_,_,_,_,_,?_,.inr ⟨rfl,rfl⟩,.inr ⟨rfl,rfl⟩,Tl.nil,Tl.nil,Tl.nil,Tl.nil⟩⟩⟩
       ·rw [DS (by simp only[A0.new,A0.set];omega),Av (by omega),DS (by simp only[A0.new];omega)];simp only[A0.new,AH]
       ·simp only[A0.new,A0.set,AH];rfl
       ·simp only[A0.new,A0.set];omega
       ·rw [DS (by simp only[A0.new,A0.set];omega),Cy];rfl
      clear hV hb hn r0 q0 q2 q2' q3 q4 r1;rintro S H ⟨s1,s2,s4,s6,hI⟩;replace zz:=BK s1 s2 s4 s6 q5 ht2 hsl @CU @CV;refine wt zz ?_;refine Cd (λm S H=>S 2= .ptr h.next 0 0/\S 4= .ptr (h.next+1) 0 0/\S 6= .mp (h.next+2)/\S 53= .imm 6 (Sx.rows secs)/\S 54= .sc (.int .i64 secs.length)/\ ∃ (k:Nat)(e:Dm)(seen:List ByteArray),S 55= .sc (.int .i64 k)/\k<=secs.length/\m=secs.length-k/\Gl h e seen H/\GS e (Sx.nodess (secs.drop k))/\JX e seen (secs.drop k)=(d,c)) secs.length ?_ ?_
      ·simp only[Ty.w,simprocAttr,s2,s4,s6];first
        |exact⟨0,_,_,rfl,Bx _,rfl,hI,by rw[CB];exact T0 hnk (by omega),by rw[CB];exact hP⟩
        |exact⟨trivial,0,_,_,rfl,Bx _,rfl,hI,by rw[CB];exact T0 hnk (by omega),by rw[CB];exact hP⟩
      (try clear zz);clear s1 s2 s4 s6 hI hP q5 ht2 S H;rintro m S H ⟨s2,s4,s6,sV,sL,k,e,seen,sI,hk,rfl,hI,hek,hP⟩;by_cases hlt:k<secs.length
      ·have hd:decide ((k:Int)<(secs.length:Int))=true:=(by simp;omega);have w7:IntKind.i64.wrap ((k:Int)+1)=((k+1:Nat):Int):=(by rw[Br (by omega) (by omega)];omega);obtain⟨y,hx⟩: ∃ y,secs[k]? =some y:=⟨_,AU hlt⟩;have hr:=Sx.rows_get hx;obtain⟨hyo,hym⟩:=hsb y (C7 hx);rw[Cm hx]at hP hek;simp only[Sx.nodess]at hek;clear hx;have hby:=Ly hyo;have hse:=λ{h0:A0}{id:Nat} w rest (hD:Bd y=some (w,rest))=>lR (h0:=h0) (id:=id) (d:=e) hD hyo hym (by have:=hek.preds.1;omega) (by have:=hek.funs.1;omega) (by have:=hek.acts.1;omega) (by have:=hek.durs.1;omega);have hsk:=λw rest (hD:Bd y=some (w,rest))=>Xq (n:=Sx.nodess (secs.drop (k+1))) (d:=e) hyo hym hD (by rw[TG];exact hek);rw[JX]at hP;obtain⟨vk,vv,vl,vc,vt,vs⟩:=y;simp only[Sx.cells]at hr hby hse;replace zz:=BO s2 s4 s6 sV sL sI hd hr;refine xH 12 zz ?_;refine⟨?_⟩;refine Gy 8 rfl (sq A3) (λn H=>FZ n H (.mk vk vv vl vc vt vs)) ?_;refine Cj (λS H=>S 2= .ptr h.next 0 0/\S 4= .ptr (h.next+1) 0 0/\S 6= .mp (h.next+2)/\S 53= .imm 6 (Sx.rows secs)/\S 54= .sc (.int .i64 secs.length)/\S 55= .sc (.int .i64 k)/\S 8= .cptr [.sc (.int .i64 vk),.sc (.int .i64 vv),.sc (.int .i64 vl),.sc (.int .i64 vc),A2 vt,.imm 6 (Sx.rows vs)]/\Gl h e seen H) ⟨sq s2,sq s4,sq s6,sq sV,sq sL,sq sI,by simp only[Ty.w,simprocAttr,Sx.cells],hI.tmp _ _⟩ ?_;clear s2 s4 s6 sV sL sI hI hr hd;rintro S H ⟨s2,s4,s6,sV,sL,sI,s8,hI⟩;obtain⟨hg,o1,o2⟩:=hI.facts;unfold Ep at hP;generalize hD:Bd (.mk vk vv vl vc vt vs)=D at hP hby hse hsk;cases D with
       |none=>
        simp only at hP;have hP2:(e,(2:Int))=(d,c):=hP;simp only[Ar]at hP2;obtain⟨_,rfl⟩:=hP2;simp only[MN]at hby;refine wt s8 ?_;refine uU (uu s8 yF) (hby _) ?_;refine wt (AV s2 o1 yF) ?_;exact KA (hFE (by decide)) rfl hg
       |some wr=>
        obtain⟨w',rest'⟩:=wr;simp only at hP;simp only[NL]at hby;obtain⟨_,_,_,_,_,_,r0,q0,_,_,_,_⟩:=N9 hyo hD;have hse:=λ{h0:A0}{id:Nat}=>hse (h0:=h0) (id:=id) w' rest' rfl;have hsk:=hsk w' rest' rfl;have hct:=λh:A0=>lD (h:=h) (l:=N7) (s:=w') (by decide);simp only[ld]at hct;have hmf:=Xv w' seen.reverse;rw[List.any_reverse]at hmf;have hid:=hI.decl w';generalize hdc:N7.any (A1 w')=dc at hP hct;generalize hsa:seen.any (A1 w')=sa at hP hmf;refine wt s8 ?_;refine uU (uu s8 yT) (hby _) ?_;replace zz:=As s2 s8 r0 q0 yT;refine xH 15 zz ?_;refine⟨?_⟩;refine Cj (λS H=>S 2= .ptr h.next 0 0/\S 4= .ptr (h.next+1) 0 0/\S 6= .mp (h.next+2)/\S 53= .imm 6 (Sx.rows secs)/\S 54= .sc (.int .i64 secs.length)/\S 55= .sc (.int .i64 k)/\S 8= .cptr [.sc (.int .i64 vk),.sc (.int .i64 vv),.sc (.int .i64 vl),.sc (.int .i64 vc),A2 vt,.imm 6 (Sx.rows vs)]/\S 9=A2 w'/\Gl h e seen H/\AC h H/\H.obj h.next=some (.arr 7 [ME])/\H.obj (h.next+2)=some (.map (IV seen.reverse))) ⟨sq s2,sq s4,sq s6,sq sV,sq sL,sq sI,sq s8,sq A3,hI,hg,o1,o2⟩ ?_;(try clear zz);clear s2 s4 s6 sV sL sI s8 hI hid hg o1 o2 r0 q0 S H hby;rintro S H ⟨s2,s4,s6,sV,sL,sI,s8,s9,hI,hg,o1,o2⟩;have hid:=hI.decl w';refine DA (λS H=>S 2= .ptr h.next 0 0/\S 4= .ptr (h.next+1) 0 0/\S 6= .mp (h.next+2)/\S 53= .imm 6 (Sx.rows secs)/\S 54= .sc (.int .i64 secs.length)/\S 55= .sc (.int .i64 k)/\S 8= .cptr [.sc (.int .i64 vk),.sc (.int .i64 vv),.sc (.int .i64 vl),.sc (.int .i64 vc),A2 vt,.imm 6 (Sx.rows vs)]/\Gl h e (bif dc then w'::seen else seen) H/\(dc&&sa)=false) ?_ ?_
        ·cases dc with
         |false=>
          refine wt s9 ?_;refine uU s9 (hct _) ?_;replace zz:=Ag s2 s4 s6 sV sL sI s8;refine wt zz ?_;first|exact hI|exact⟨s2,s4,s6,sV,sL,sI,s8,hI,rfl⟩|exact⟨hI,rfl⟩|exact⟨sq s2,sq s4,sq s6,sq sV,sq sL,sq sI,sq s8,hI,rfl⟩
         |true=>
          cases sa with
          |true=>
           simp only[AB]at hP hmf;have hP2:(e,(4:Int))=(d,c):=hP;simp only[Ar]at hP2;obtain⟨_,rfl⟩:=hP2;refine wt s9 ?_;refine uU s9 (hct _) ?_;replace zz:=Aq s2 s6 s9 o1 o2 hmf;refine wt zz ?_;exact KA (hFE (by decide)) rfl hg
          |false=>
           simp only[AB,AI]at hP hmf;have hmp:=Xw (w:=w') (l:=seen.reverse) (by rw[List.any_reverse];exact hsa);refine wt s9 ?_;refine uU s9 (hct _) ?_;replace zz:=AY s2 s4 s6 s9 sV sL sI s8 o1 o2 hmf hmp;refine wt zz ?_;first|exact hid|exact⟨hid,rfl⟩|exact⟨sq s2,sq s4,sq s6,sq sV,sq sL,sq sI,sq s8,hid,rfl⟩
        ·(try clear zz);clear s2 s4 s6 sV sL sI s8 s9 hI hg o1 o2 hid hmf hct S H;rintro S H ⟨s2,s4,s6,sV,sL,sI,s8,hI,hnn⟩;have hP2:(bif (Cu e w' rest' (.mk vk vv vl vc vt vs)).2==0 then JX (Cu e w' rest' (.mk vk vv vl vc vt vs)).1 (bif dc then w'::seen else seen) (secs.drop (k+1))else((Cu e w' rest' (.mk vk vv vl vc vt vs)).1,(Cu e w' rest' (.mk vk vv vl vc vt vs)).2))=(d,c):=by
          cases dc with
          |false=>exact hP
          |true=>
           cases sa with
           |false=>exact hP
           |true=>simp at hnn
         clear hP;generalize(bif dc then w'::seen else seen)=seen2 at hI hP2;generalize Cu e w' rest' (.mk vk vv vl vc vt vs)=A at hP2 hse hsk;obtain⟨e2,c2⟩:=A;simp only at hP2 hse hsk;obtain⟨h0,gg,p1,p2,pl,di⟩:=hI;refine wt (uu s4 s8) ?_;refine R7 (hse _ di) (by simp only[Ty.w,simprocAttr,s4,s8];try rfl) ?_;rintro r h2 ⟨rfl,di2⟩;clear hse di;have hI2:Gl h e2 seen2 h2:=⟨h0,gg,p1,p2,pl,di2⟩;obtain⟨hg2,o12,_⟩:=hI2.facts;simp only[Ty.w,simprocAttr,Ty.AW];cases hc2:c2==0 with
         |false=>
          have er2:AO c2=Aj c2:=(by simp only[AO,hc2,AI]);rw[hc2]at hP2;simp only[AI,Ar]at hP2;obtain⟨_,rfl⟩:=hP2;simp only[er2,Aj];refine wt (uu s2 o12) ?_;exact KA (hFE (by simpa using hc2)) er2 hg2
         |true=>
          have er2:AO c2= .sc .nilIface:=(by simp only[AO,hc2,AB]);rw[hc2]at hP2;simp only[AB]at hP2;simp only[er2];replace zz:=Ag s2 s4 s6 sV sL sI w7;refine wt zz ?_;first
           |exact⟨secs.length-(k+1),by omega,k+1,e2,seen2,rfl,by omega,rfl,hI2,hsk,hP2⟩
           |exact⟨secs.length-(k+1),by omega,sq s2,sq s4,sq s6,sq sV,sq sL,k+1,e2,seen2,sq A3,by omega,rfl,hI2,hsk,hP2⟩
      ·have hd:decide ((k:Int)<(secs.length:Int))=false:=(by simp;omega);rw[D3 (by omega)]at hP;simp only[JX,Ar]at hP;obtain⟨rfl,rfl⟩:=hP;rw[AG rfl]at hF;have hW:=λh:A0=>XH hdo.ok hdo.sm (Sp hdo.ok hdo.sm) h;have e0:(Gh e&&(CL (H4 e) 0 0).1)=Gj e:=rfl;rw[e0]at hW;clear e0;generalize Gj e=wb at hF hW;generalize H4 e=X at hW;obtain⟨xk,xv,xl,xc,xt,xs⟩:=X;simp only[IE,Sx.cells,Sx.rows,Aj]at hW;obtain⟨hg,o1,_⟩:=hI.facts;replace zz:=As s2 s4 sL sI hd;refine xH 23 zz ?_;refine⟨?_⟩;refine Mc (h.next+1) [(4,.cptr e.cells)] rfl (by obtain⟨h0,gg,p1,p2,pl,di⟩:=hI;have:=di.grow.le;omega) ?_ ?_
       ·intro x hx;simp only[D7,Gn,HE]at hx;subst hx;simp only[Ty.w,simprocAttr,s4];exact hI.drop
       refine Cj (λS H=>S 2= .ptr h.next 0 0/\S 4= .cptr e.cells/\h.next<H.next/\AC h H/\H.obj h.next=some (.arr 7 [ME])) ⟨by simp only[Ev,Ty.w,simprocAttr,s2],by simp only[Ev,Ty.w,simprocAttr],by obtain⟨h0,gg,p1,p2,pl,di⟩:=hI;have:=di.grow.le;simp only[Ed];omega,⟨hg.le,λj hj=>by simp only[Ed];rw[AG (by omega)];exact hg.old j hj⟩,by simp only[Ed];rw[AG (by omega)];exact o1⟩ ?_;clear s2 s4 s6 sV sL sI hI hg o1 hd hdo hek;rintro S H ⟨s2,s4,hlt2,hg,o1⟩;have hft:=λ(n:Nat)(H:A0)(c:Int)(u:PV)(hc:AO c=u)=>lq (n:=n) (H:=H) (d:=e) (c:=c) hc;obtain⟨dn,dt,dc,dp,df,da,dd⟩:=e;simp only[Dm.cells]at s4 hW hft;have n2:(h.next=H.next)=False:=B4 (by omega);cases wb with
       |false=>
        rw[A4 (by simp)]at hF;simp only[BG,AP]at hW;refine wt s4 ?_;refine uU (uu s2 s4) (hW _) ?_;refine wt (AV s2 o1 n2) ?_;exact KA hF.symm rfl ((hg.new _).set hg.le _)
       |true=>
        rw[AG rfl]at hF;simp only[AH]at hW;subst hF;refine wt s4 ?_;refine uU (uu s2 s4) (hW _) ?_;replace zz:=Aa s2 s4 o1 n2;refine wt zz ?_;exact⟨hft _ _ 0 _ rfl,((hg.new _).set hg.le _).set (AD _) _⟩
set_option maxHeartbeats 4000000
theorem lr{x:Sx}(hok:x.ok):A6 prog 6 [.agg x.cells] A0.nil λr _=>r= .sc (.bool true):=by
 have hC:=fw x hok;have hP:=λh:A0=>Y3 hok h;have hg:=lb hok;have hE:= @kV x;have hWr:= @kX x;generalize HA x=P at hP hg hE hWr;obtain⟨d,c⟩:=P;simp only at hP hg hE hWr;have hW:=λh:A0=>XH hg.ok hg.sm (Sp hg.ok hg.sm) h;have e0:(Gh d&&(CL (H4 d) 0 0).1)=Gj d:=rfl;rw[e0]at hW;have hS:=λh:A0=>gi d d hg.ok hg.ok h;rw[gU]at hS;generalize x.count=n at hC;cases q:decide (n>2000)with
 |true=>
  clear hP hW hS hE hWr hg hok e0;obtain⟨kind,value,line,col,text,kids⟩:=x;simp only[Sx.cells]at hC⊢;refine AE func6 ntmps6 results6 Ty.Pc ?_;refine wt A3 ?_;refine uU q (hC _) ?_;refine wt q ?_;refine uU A3 (SO) ?_;exact wz A3
 |false=>
  cases hc:c==0 with
  |false=>
   have er:AO c=Aj c:=(by simp only[AO,hc,AI]);have hz:=hE hc;subst hz;rw[er]at hP;simp only[Aj,F9,Dm.cells]at hP;clear hW hS hE hWr hg hok e0;obtain⟨kind,value,line,col,text,kids⟩:=x;simp only[Sx.cells]at hC hP⊢;refine AE func6 ntmps6 results6 Ty.Pc ?_;refine wt A3 ?_;refine uU q (hC _) ?_;refine wt q ?_;refine uU yT (SO) ?_;refine wt yT ?_;refine uU A3 (hP _) ?_;exact wz @B2
  |true=>
   have er:AO c= .sc .nilIface:=(by simp only[AO,hc,AB]);have hw:=hWr (by simpa using hc);have hpp:=ku hw;have hxo:=Sp hg.ok hg.sm;have hP2:=λh:A0=>Y3 hxo h;rw[hpp]at hP2;have er0:AO 0= .sc .nilIface:=rfl;rw[er]at hP;simp only[er0]at hP2;simp only[hw,AH]at hW;generalize H4 d=X at hW hP2;clear hE hWr hg hok e0 hw hpp hxo;obtain⟨kind,value,line,col,text,kids⟩:=x;obtain⟨xk,xv,xl,xc,xt,xs⟩:=X;obtain⟨dn,dt,dc,dp,df,da,dd⟩:=d;simp only[Sx.cells,Dm.cells]at hC hP hW hP2 hS⊢;refine AE func6 ntmps6 results6 Ty.Pc ?_;refine wt A3 ?_;refine uU q (hC _) ?_;refine wt q ?_;refine uU yT (SO) ?_;refine wt yT ?_;refine uU A3 (hP _) ?_;refine wt @B2 ?_;refine uU @B2 (hW _) ?_;refine wt @B2 ?_;refine uU @B2 (hP2 _) ?_;refine wt @B2 ?_;refine uU @B2 (hS _) ?_;exact wz @B2
end Go.Proofs.YtblgchkahpgdjaaGreat
