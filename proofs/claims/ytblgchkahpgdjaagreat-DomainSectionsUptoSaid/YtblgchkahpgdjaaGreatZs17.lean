/- What the claim rests on, part 17: the abstract machine, contracts of the functions, plain data. -/
import Derived.Test.YtblgchkahpgdjaaGreatZs16
set_option linter.unusedVariables false
set_option linter.unusedSimpArgs false
set_option linter.unusedSectionVars false
namespace Go.Proofs.YtblgchkahpgdjaaGreat
open Go.AM Go.Proofs.Tryz
set_option maxHeartbeats 8000000
set_option maxRecDepth 20000
abbrev nE:List PV:=[.sc (.string ⟨#[]⟩),.sc (.slice none 0 0),.sc (.int .i64 0),.sc (.string ⟨#[]⟩),.sc (.string ⟨#[]⟩),.sc (.slice none 0 0),.sc (.slice none 0 0),.sc (.slice none 0 0),.sc (.slice none 0 0),.sc (.string ⟨#[]⟩),.sc (.string ⟨#[]⟩),.sc (.slice none 0 0),.sc (.slice none 0 0),.sc (.slice none 0 0),.sc (.slice none 0 0),.sc (.string ⟨#[]⟩),.sc (.string ⟨#[]⟩),.sc (.slice none 0 0),.sc (.slice none 0 0),.sc (.slice none 0 0),.sc (.slice none 0 0),.sc (.slice none 0 0),.sc (.slice none 0 0)]
structure HC(h:A1)(a:Du)(H:A1):Prop where
 grow:AH h H
 lt:h.next+1<H.next
 TR:H.obj h.next=some (.arr 23 [nE])
 ex: ∃ P C0 C1 gop gna gar gpa gex gki kop kna kar kpa kex kki lop lna lar lpa lex lki,a.start= .mk gop gna gar gpa gex gki/\a.over= .mk kop kna kar kpa kex kki/\a.stop= .mk lop lna lar lpa lex lki/\H.obj (h.next+1)=some (.arr 23 [[A4 a.name,P,.sc (.int .i64 a.Dp),A4 gop,A4 gna,.A2 1 (AN gar),.A2 2 (A9 gpa),.A2 5 (Ex.rows gex),.A2 6 (Fm.rows gki),A4 kop,A4 kna,.A2 1 (AN kar),.A2 2 (A9 kpa),.A2 5 (Ex.rows kex),.A2 6 (Fm.rows kki),A4 lop,A4 lna,.A2 1 (AN lar),.A2 2 (A9 lpa),.A2 5 (Ex.rows lex),.A2 6 (Fm.rows lki),C0,C1]])/\Bc 2 (A9 a.params) P/\Bc 15 (Ae a.Bp) C0/\Bc 15 (Ae a.Bq) C1
theorem HC.tmp{h H:A1}{a:Du}(i:HC h a H)(o o':An):HC h a (HO H o o'):=by
 obtain⟨g,lt,o1,P,C0,C1,gop,gna,gar,gpa,gex,gki,kop,kna,kar,kpa,kex,kki,lop,lna,lar,lpa,lex,lki,e0,e1,e2,eo,eP,eC0,eC1⟩:=i;exact⟨g.tmp o o',by rw[IP];omega,by rw[IQ (by omega)];exact o1,P,C0,C1,gop,gna,gar,gpa,gex,gki,kop,kna,kar,kpa,kex,kki,lop,lna,lar,lpa,lex,lki,e0,e1,e2,by rw[IQ (by omega)];exact eo,eP,eC0,eC1⟩
theorem HC.upd{h H:A1}{a a':Du}(i:HC h a H){P C0 C1:PV}{gop gna:ByteArray}{gar:List ByteArray}{gpa:List Pm}{gex:List Ex}{gki:List Fm}{kop kna:ByteArray}{kar:List ByteArray}{kpa:List Pm}{kex:List Ex}{kki:List Fm}{lop lna:ByteArray}{lar:List ByteArray}{lpa:List Pm}{lex:List Ex}{lki:List Fm}(e0:a'.start= .mk gop gna gar gpa gex gki)(e1:a'.over= .mk kop kna kar kpa kex kki)(e2:a'.stop= .mk lop lna lar lpa lex lki)(eP:Bc 2 (A9 a'.params) P)(eC0:Bc 15 (Ae a'.Bp) C0)(eC1:Bc 15 (Ae a'.Bq) C1):
  HC h a' (H.set (h.next+1) (.arr 23 [[A4 a'.name,P,.sc (.int .i64 a'.Dp),A4 gop,A4 gna,.A2 1 (AN gar),.A2 2 (A9 gpa),.A2 5 (Ex.rows gex),.A2 6 (Fm.rows gki),A4 kop,A4 kna,.A2 1 (AN kar),.A2 2 (A9 kpa),.A2 5 (Ex.rows kex),.A2 6 (Fm.rows kki),A4 lop,A4 lna,.A2 1 (AN lar),.A2 2 (A9 lpa),.A2 5 (Ex.rows lex),.A2 6 (Fm.rows lki),C0,C1]])):=by
 obtain⟨g,lt,o1,_⟩:=i;exact⟨g.set (by omega) _,lt,(Az (by omega)).trans o1,P,C0,C1,gop,gna,gar,gpa,gex,gki,kop,kna,kar,kpa,kex,kki,lop,lna,lar,lpa,lex,lki,e0,e1,e2,DC,eP,eC0,eC1⟩
theorem HC.fin{h H:A1}{X:An}{a:Du}{F:Du × Int}{c:Int}{u:PV}(hF:F=(a,c))(hu:AS c=u)(g:AH h H){P C0 C1:PV}{gop gna:ByteArray}{gar:List ByteArray}{gpa:List Pm}{gex:List Ex}{gki:List Fm}{kop kna:ByteArray}{kar:List ByteArray}{kpa:List Pm}{kex:List Ex}{kki:List Fm}{lop lna:ByteArray}{lar:List ByteArray}{lpa:List Pm}{lex:List Ex}{lki:List Fm}(e0:a.start= .mk gop gna gar gpa gex gki)(e1:a.over= .mk kop kna kar kpa kex kki)(e2:a.stop= .mk lop lna lar lpa lex lki)(eP:Bc 2 (A9 a.params) P)(eC0:Bc 15 (Ae a.Bp) C0)(eC1:Bc 15 (Ae a.Bq) C1):
  AJ h.next (H.set h.next X) (.Am [.agg (DF F.1),AS F.2]) (.Am [.agg [A4 a.name,P,.sc (.int .i64 a.Dp),A4 gop,A4 gna,.A2 1 (AN gar),.A2 2 (A9 gpa),.A2 5 (Ex.rows gex),.A2 6 (Fm.rows gki),A4 kop,A4 kna,.A2 1 (AN kar),.A2 2 (A9 kpa),.A2 5 (Ex.rows kex),.A2 6 (Fm.rows kki),A4 lop,A4 lna,.A2 1 (AN lar),.A2 2 (A9 lpa),.A2 5 (Ex.rows lex),.A2 6 (Fm.rows lki),C0,C1],u])/\AH h (H.set h.next X):=by
 subst hF;subst hu;refine⟨?_,g.set (AG _) _⟩;obtain⟨u,hu⟩:=Do c;rw[hu];obtain⟨an,ap,ac,astart,aover,astop,aatStart,aatStop⟩:=a;simp only at e0 e1 e2 eP eC0 eC1;subst e0;subst e1;subst e2;skip;simp only[DF,Fm.cells,List.cons_append,List.nil_append];have hP:=eP.CF (n:=h.next) (H.set h.next X) (C6 _ _);have hC0:=eC0.CF (n:=h.next) (H.set h.next X) (Gm _ _);have hC1:=eC1.CF (n:=h.next) (H.set h.next X) (Gm _ _);unfold AJ;refine⟨_,rfl,?_⟩;unfold AP;refine⟨?_,by simp only[AP,AJ,KT]⟩;unfold AJ;refine⟨_,rfl,?_⟩;unfold AP;refine⟨Bk,?_⟩;unfold AP;refine⟨hP,?_⟩;unfold AP;refine⟨Bk,?_⟩;unfold AP;refine⟨Bk,?_⟩;unfold AP;refine⟨Bk,?_⟩;unfold AP;refine⟨BA (Dc _ _),?_⟩;unfold AP;refine⟨BA (C6 _ _),?_⟩;unfold AP;refine⟨BA (E0 _ _),?_⟩;unfold AP;refine⟨BA (Ed _ _),?_⟩;unfold AP;refine⟨Bk,?_⟩;unfold AP;refine⟨Bk,?_⟩;unfold AP;refine⟨BA (Dc _ _),?_⟩;unfold AP;refine⟨BA (C6 _ _),?_⟩;unfold AP;refine⟨BA (E0 _ _),?_⟩;unfold AP;refine⟨BA (Ed _ _),?_⟩;unfold AP;refine⟨Bk,?_⟩;unfold AP;refine⟨Bk,?_⟩;unfold AP;refine⟨BA (Dc _ _),?_⟩;unfold AP;refine⟨BA (C6 _ _),?_⟩;unfold AP;refine⟨BA (E0 _ _),?_⟩;unfold AP;refine⟨BA (Ed _ _),?_⟩;unfold AP;refine⟨hC0,?_⟩;unfold AP;refine⟨hC1,?_⟩;simp only[AP]
def T7(lc:Int)(r:Du × Int):Du × Int:=bif r.2==0 then(r.1,lc)else r
theorem nF(a:Du)(kw:ByteArray)(v:Sx)(l:List (ByteArray × Sx)):H9 a ((kw,v)::l)=bif (DS a kw v).2==0 then H9 (DS a kw v).1 l else DS a kw v:=rfl
theorem nG{x:Sx}(hok:x.ok)(hsm:x.small)(h:A1):A6 prog 122 [.agg x.cells] h λr h'=>r= .Am [.agg (DF (HA x).1),AS (HA x).2]/\h'=h:=by
 refine A6.CF Ty.Ul ?_;have hH:=λh:A1=>Xy hok h;have hlen:= @Y2 x;generalize hF:HA x=F;unfold HA at hF;generalize Dn x=HD at hF hH hlen;obtain⟨na,hc⟩:=HD;simp only at hF hH hlen;obtain⟨kind,value,line,col,text,kids⟩:=x;simp only[C9]at hF hlen;simp only[Sx.cells]at hH⊢;simp only[Sx.ok]at hok;simp only[Sx.small]at hsm;have hko:=Sx.Bz.1 hok.2.2.2.2;have hkm:=Sx.Eh.1 hsm.2;have hkl:=hsm.1;have hrl:=Sx.B4 kids
 clear hok hsm;have hal:=λh:A1=>LD (h:=h);simp only[Bw,Fm.cells]at hal;generalize hR:Sx.rows kids=R at hH hrl⊢;refine AF func122 ntmps122 results122 Ty.Ul ?_;refine wt A5 ?_;refine uU A5 (hal _) ?_;refine wt A5 ?_;refine uU A5 (hal _) ?_;refine wt A5 ?_;refine uU A5 (hal _) ?_;refine xG 2 @B1 ?_;refine⟨?_⟩;refine Cq (λS H=>S 1= .Ag [.sc (.int .i64 kind),.sc (.int .i64 value),.sc (.int .i64 line),.sc (.int .i64 col),A4 text,.A2 6 R]/\S 2= .ptr h.next 0 0/\S 4= .ptr (h.next+1) 0 0/\HC h (DW ⟨#[]⟩) H) ?_ ?_
 ·refine ⟨sq A5,sq A5,sq A5,(((AH.refl h).new _).new _).set (by omega) _,by simp only[A1.set,A1.new];omega,?_,_,_,_,_,_,_,_,_,_,_,_,_,_,_,_,_,_,_,_,_,_,rfl,rfl,rfl,DC,.inr ⟨rfl,rfl⟩,.inr ⟨rfl,rfl⟩,.inr ⟨rfl,rfl⟩⟩;rw[Az (by omega),Dt (by simp only[A1.new];omega)];simp only[A1.new,AO]
 clear hal;rintro S H ⟨s1,s2,s4,hI⟩;have hS:=λ{P C0 C1:PV}{gop gna:ByteArray}{gar:List ByteArray}{gpa:List Pm}{gex:List Ex}{gki:List Fm}{kop kna:ByteArray}{kar:List ByteArray}{kpa:List Pm}{kex:List Ex}{kki:List Fm}{lop lna:ByteArray}{lar:List ByteArray}{lpa:List Pm}{lex:List Ex}{lki:List Fm}(e0:(DW na).start= .mk gop gna gar gpa gex gki)(e1:(DW na).over= .mk kop kna kar kpa kex kki)(e2:(DW na).stop= .mk lop lna lar lpa lex lki)(eP:Bc 2 (A9 (DW na).params) P)(eC0:Bc 15 (Ae (DW na).Bp) C0)(eC1:Bc 15 (Ae (DW na).Bq) C1)=>hI.upd (a':=DW na) e0 e1 e2 eP eC0 eC1;obtain⟨g,lt,o1,P,C0,C1,gop,gna,gar,gpa,gex,gki,kop,kna,kar,kpa,kex,kki,lop,lna,lar,lpa,lex,lki,e0,e1,e2,eo,eP,eC0,eC1⟩:=hI;have hS:=hS (by exact e0) (by exact e1) (by exact e2) eP eC0 eC1;simp only[DW]at eo;have cP:=eP.cell;have cC0:=eC0.cell;have cC1:=eC1.cell;have n1:(h.next=h.next+1)=False:=BB (by omega);cases hcc:hc==0 with
 |false=>
  have er:AS hc=Ao hc:=by simp only[AS,hcc,AL]
  rw[hcc]at hF;simp only[AL]at hF;rw[er]at hH;simp only[Ao]at hH;refine wt (AY s1 s2 s4) ?_;replace zz:=Aa s1 s2 s4 eo;refine uU zz (hH _) ?_;replace zz:=BT s2 s4 eo o1 n1 cP cC0 cC1;refine wt zz ?_;exact HC.fin (a:=DW na) hF.symm er (g.set (by omega) _) (by exact e0) (by exact e1) (by exact e2) eP eC0 eC1
 |true=>
  have er:AS hc= .sc .nilIface:=by simp only[AS,hcc,AC]
  rw[hcc]at hF;simp only[AC]at hF;rw[er]at hH;obtain⟨ka,kn,rest,rfl⟩:=hlen hcc;simp only[List.drop_succ_cons,List.drop_zero]at hF;have hpt:=λh:A1=>Y1 (l:=rest) (kws:=Ic) (by simp only[List.length_cons]at hkl;omega) (by decide) h;have hpm:=T4 rest Ic;have hpl:=T5 rest Ic;have q2:(2:Int)<=(R.length:Int):=by rw[hrl];simp only[List.length_cons];omega
  have ht:List.take ((R.length:Int)-2).toNat (List.drop 2 R)=Sx.rows rest:=by
   rw[← hR];simp only[Sx.rows,List.drop_succ_cons,List.drop_zero,List.length_cons];rw[List.take_of_length_le (by omega)]
  generalize CK rest Ic=PS at hF hpt hpm hpl;obtain⟨ps,lc⟩:=PS;simp only at hF hpt hpm hpl;change T7 lc (H9 (DW na) ps)=F at hF;obtain⟨lu,hlu⟩:=Do lc;rw[hlu]at hpt;have hpl2:ps.length<=1048576:=by simp only[List.length_cons]at hkl;omega
  have hrlN:(AN (ps.map (·.1))).length=ps.length:=by rw[GP,List.length_map]
  have hrlV:(Sx.rows (ps.map (·.2))).length=ps.length:=by rw[Sx.B4,List.length_map]
  have hvo: ∀ kv∈ps,kv.2.ok/\kv.2.small:=λkv hkv=>⟨hko _ (by simp[hpm kv hkv]),hkm _ (by simp[hpm kv hkv])⟩
  clear hpm hpl hko hkm hkl hR hrl hlen;refine wt (AY s1 s2 s4) ?_;replace zz:=Aa s1 s2 s4 eo;refine uU zz (hH _) ?_;replace zz:=BT s1 s2 s4 eo q2 ht @CT @Ce;refine wt zz ?_;replace zz:=Ak s1 s2 s4 q2 ht;refine uU zz (hpt _) ?_;refine xG 7 (AY s1 s2 s4) ?_;refine⟨?_⟩;refine Cq (λS H=>S 2= .ptr h.next 0 0/\S 4= .ptr (h.next+1) 0 0/\S 6= .A2 1 (AN (ps.map (·.1)))/\S 7= .A2 6 (Sx.rows (ps.map (·.2)))/\S 8= .sc lu/\HC h (DW na) H) ⟨sq s2,sq s4,sq A5,sq A5,sq A5,hS⟩ ?_
  clear s1 s2 s4 hS hH hpt ht q2;rintro S H ⟨s2,s4,s6,s7,s8,hI⟩;refine wt (uu s7 hrlV) ?_;refine CG (λm S H=>S 2= .ptr h.next 0 0/\S 4= .ptr (h.next+1) 0 0/\S 6= .A2 1 (AN (ps.map (·.1)))/\S 34= .A2 6 (Sx.rows (ps.map (·.2)))/\S 8= .sc lu/\S 35= .sc (.int .i64 ps.length)/\ ∃ (k:Nat)(a:Du),S 36= .sc (.int .i64 k)/\k<=ps.length/\m=ps.length-k/\HC h a H/\F=T7 lc (H9 a (ps.drop k))) ps.length ?_ ?_
  ·simp only[Ty.w,simprocAttr,s2,s4,s6,s8];exact⟨0,_,rfl,BY _,rfl,hI,by rw[List.drop_zero];exact hF.symm⟩
  try clear zz
  clear s2 s4 s6 s7 s8 hI hF S H;rintro m S H ⟨s2,s4,s6,sV,s8,sL,k,a,sI,hk,rfl,hI,hF⟩;by_cases hlt:k<ps.length
  ·have hd:decide ((k:Int)<(ps.length:Int))=true:=(by simp;omega);have w7:IntKind.i64.wrap ((k:Int)+1)=((k+1:Nat):Int):=(by rw[BZ (by omega) (by omega)];omega);obtain⟨⟨kw,v⟩,hx⟩: ∃ x,ps[k]? =some x:=⟨_,List.getElem?_eq_getElem hlt⟩;have hrk:(AN (ps.map (·.1)))[k]? =some [A4 kw]:=Kr (by rw[List.getElem?_map,hx];try rfl);have hrv:(Sx.rows (ps.map (·.2)))[k]? =some v.cells:=Sx.CL (by rw[List.getElem?_map,hx];try rfl);obtain⟨hvok,hvsm⟩:=hvo _ (List.mem_of_getElem? hx);simp only at hvok hvsm;rw[Cd hx,nF]at hF;clear hx;obtain⟨vk,vv,vl,vc,vt,vs⟩:=v;simp only[Sx.cells]at hrv;replace zz:=BO s2 s4 s6 s8 sV sL sI hd hrv;refine xH 10 zz ?_;refine⟨?_⟩;refine H4 10 rfl (sq A5) (λn H=>FC n H (.mk vk vv vl vc vt vs)) ?_;refine Cq (λS H=>S 2= .ptr h.next 0 0/\S 4= .ptr (h.next+1) 0 0/\S 6= .A2 1 (AN (ps.map (·.1)))/\S 34= .A2 6 (Sx.rows (ps.map (·.2)))/\S 8= .sc lu/\S 35= .sc (.int .i64 ps.length)/\S 36= .sc (.int .i64 k)/\S 9= .sc (.int .i64 k)/\S 10= .Ag [.sc (.int .i64 vk),.sc (.int .i64 vv),.sc (.int .i64 vl),.sc (.int .i64 vc),A4 vt,.A2 6 (Sx.rows vs)]/\HC h a H) ⟨sq s2,sq s4,sq s6,sq sV,sq s8,sq sL,sq sI,sq A5,by simp only[Ty.w,simprocAttr,Sx.cells],hI.tmp _ _⟩ ?_;clear s2 s4 s6 s8 sV sL sI hd hrv hI;rintro S H ⟨s2,s4,s6,sV,s8,sL,sI,s9,s10,hI⟩;refine DB (λS H=>S 2= .ptr h.next 0 0/\S 4= .ptr (h.next+1) 0 0/\S 6= .A2 1 (AN (ps.map (·.1)))/\S 34= .A2 6 (Sx.rows (ps.map (·.2)))/\S 8= .sc lu/\S 35= .sc (.int .i64 ps.length)/\S 36= .sc (.int .i64 k)/\S 5=AS (DS a kw (.mk vk vv vl vc vt vs)).2/\HC h (DS a kw (.mk vk vv vl vc vt vs)).1 H) ?_ ?_
   ·clear hF hvo;have b0:(0:Int)<=(k:Int):=(by omega);have T1:(k:Int).toNat=k:=JD k;have bl:((k:Int)<(ps.length:Int))=True:=DU (by omega);cases q0:(kw.data.toList==(#[58,112,97,114,97,109,101,116,101,114,115]:Array UInt8).toList)with
    |true=>
     have e:DS a kw (.mk vk vv vl vc vt vs)=({a with params:=(GJ (.mk vk vv vl vc vt vs)).1},(GJ (.mk vk vv vl vc vt vs)).2):=(by unfold DS;simp only[show A3 kw Cj=true from q0,AC,AL]);rw[e];have hc1:=λh:A1=>Xx (x:=(.mk vk vv vl vc vt vs)) hvok hvsm h;generalize GJ (.mk vk vv vl vc vt vs)=L at hc1;obtain⟨l,c⟩:=L;obtain⟨u,hu⟩:=Do c;simp only[Sx.cells,hu]at hc1⊢;have hS:=λ{P C0 C1:PV}{gop gna:ByteArray}{gar:List ByteArray}{gpa:List Pm}{gex:List Ex}{gki:List Fm}{kop kna:ByteArray}{kar:List ByteArray}{kpa:List Pm}{kex:List Ex}{kki:List Fm}{lop lna:ByteArray}{lar:List ByteArray}{lpa:List Pm}{lex:List Ex}{lki:List Fm}(e0:({a with params:=l}).start= .mk gop gna gar gpa gex gki)(e1:({a with params:=l}).over= .mk kop kna kar kpa kex kki)(e2:({a with params:=l}).stop= .mk lop lna lar lpa lex lki)(eP:Bc 2 (A9 ({a with params:=l}).params) P)(eC0:Bc 15 (Ae ({a with params:=l}).Bp) C0)(eC1:Bc 15 (Ae ({a with params:=l}).Bq) C1)=>hI.upd (a':={a with params:=l}) e0 e1 e2 eP eC0 eC1;obtain⟨g,lt,o1,P,C0,C1,gop,gna,gar,gpa,gex,gki,kop,kna,kar,kpa,kex,kki,lop,lna,lar,lpa,lex,lki,e0,e1,e2,eo,eP,eC0,eC1⟩:=hI;have hS:=hS (by exact e0) (by exact e1) (by exact e2) (.inl rfl) eC0 eC1;(repeat'(first|refine cK ?_|(refine nK ?_;try exact zI)|refine Af λK hK=>?_|(refine Ci ?_)|((first|refine Bn ?_|refine FN (λK hK=>?_));simp only[Ty.w,simprocAttr,s2,s4,s6,s9,s10,hrk,b0,T1,bl,hrlN,q0])|(refine hK _ _ ?_;clear hK;(try simp only[Au,simprocAttr]))));replace zz:=Ah s2 s4 s6 s8 s9 s10 eo;refine uU zz (hc1 _) ?_;replace zz:=BT s2 s4 s6 s8 sV sL sI eo;(repeat'(first|refine cK ?_|refine nK ?_|(refine uN hK ?_;clear hK)|apply zI));exact⟨sq s2,sq s4,sq s6,sq sV,sq s8,sq sL,sq sI,sq A5,hS⟩
    |false=>
     cases q1:(kw.data.toList==(#[58,100,117,114,97,116,105,111,110]:Array UInt8).toList)with
     |true=>
      have e:DS a kw (.mk vk vv vl vc vt vs)=({a with Dp:=(FL (.mk vk vv vl vc vt vs)).1},(FL (.mk vk vv vl vc vt vs)).2):=(by unfold DS;simp only[show A3 kw Cj=false from q0,show A3 kw Eo=true from q1,AC,AL]);rw[e];have hc1:=λh:A1=>Xw (x:=(.mk vk vv vl vc vt vs)) h;generalize FL (.mk vk vv vl vc vt vs)=L at hc1;obtain⟨n,c⟩:=L;obtain⟨u,hu⟩:=Do c;simp only[Sx.cells,hu]at hc1⊢;have hS:=λ{P C0 C1:PV}{gop gna:ByteArray}{gar:List ByteArray}{gpa:List Pm}{gex:List Ex}{gki:List Fm}{kop kna:ByteArray}{kar:List ByteArray}{kpa:List Pm}{kex:List Ex}{kki:List Fm}{lop lna:ByteArray}{lar:List ByteArray}{lpa:List Pm}{lex:List Ex}{lki:List Fm}(e0:({a with Dp:=n}).start= .mk gop gna gar gpa gex gki)(e1:({a with Dp:=n}).over= .mk kop kna kar kpa kex kki)(e2:({a with Dp:=n}).stop= .mk lop lna lar lpa lex lki)(eP:Bc 2 (A9 ({a with Dp:=n}).params) P)(eC0:Bc 15 (Ae ({a with Dp:=n}).Bp) C0)(eC1:Bc 15 (Ae ({a with Dp:=n}).Bq) C1)=>hI.upd (a':={a with Dp:=n}) e0 e1 e2 eP eC0 eC1;obtain⟨g,lt,o1,P,C0,C1,gop,gna,gar,gpa,gex,gki,kop,kna,kar,kpa,kex,kki,lop,lna,lar,lpa,lex,lki,e0,e1,e2,eo,eP,eC0,eC1⟩:=hI;have hS:=hS (by exact e0) (by exact e1) (by exact e2) eP eC0 eC1;(repeat'(first|refine cK ?_|(refine nK ?_;try exact zI)|refine Af λK hK=>?_|(refine Ci ?_)|((first|refine Bn ?_|refine FN (λK hK=>?_));simp only[Ty.w,simprocAttr,s2,s4,s6,s9,s10,hrk,b0,T1,bl,hrlN,q0,q1])|(refine hK _ _ ?_;clear hK;(try simp only[Au,simprocAttr]))));replace zz:=Ah s2 s4 s6 s8 s9 s10 eo;refine uU zz (hc1 _) ?_;replace zz:=BT s2 s4 s6 s8 sV sL sI eo;(repeat'(first|refine cK ?_|refine nK ?_|(refine uN hK ?_;clear hK)|apply zI));exact⟨sq s2,sq s4,sq s6,sq sV,sq s8,sq sL,sq sI,sq A5,hS⟩
     |false=>
      cases q2:(kw.data.toList==(#[58,115,116,97,114,116]:Array UInt8).toList)with
      |true=>
       have e:DS a kw (.mk vk vv vl vc vt vs)=({a with start:=(Co (.mk vk vv vl vc vt vs)).1},(Co (.mk vk vv vl vc vt vs)).2):=(by unfold DS;simp only[show A3 kw Cj=false from q0,show A3 kw Eo=false from q1,show A3 kw F5=true from q2,AC,AL]);rw[e];have hc1:=λh:A1=>OM (x:=(.mk vk vv vl vc vt vs)) hvok h;generalize Co (.mk vk vv vl vc vt vs)=L at hc1;obtain⟨⟨fop,fna,far,fpa,fex,fki⟩,c⟩:=L;obtain⟨u,hu⟩:=Do c;simp only[Sx.cells,Fm.cells,hu]at hc1⊢;have hS:=λ{P C0 C1:PV}{gop gna:ByteArray}{gar:List ByteArray}{gpa:List Pm}{gex:List Ex}{gki:List Fm}{kop kna:ByteArray}{kar:List ByteArray}{kpa:List Pm}{kex:List Ex}{kki:List Fm}{lop lna:ByteArray}{lar:List ByteArray}{lpa:List Pm}{lex:List Ex}{lki:List Fm}(e0:({a with start:=Fm.mk fop fna far fpa fex fki}).start= .mk gop gna gar gpa gex gki)(e1:({a with start:=Fm.mk fop fna far fpa fex fki}).over= .mk kop kna kar kpa kex kki)(e2:({a with start:=Fm.mk fop fna far fpa fex fki}).stop= .mk lop lna lar lpa lex lki)(eP:Bc 2 (A9 ({a with start:=Fm.mk fop fna far fpa fex fki}).params) P)(eC0:Bc 15 (Ae ({a with start:=Fm.mk fop fna far fpa fex fki}).Bp) C0)(eC1:Bc 15 (Ae ({a with start:=Fm.mk fop fna far fpa fex fki}).Bq) C1)=>hI.upd (a':={a with start:=Fm.mk fop fna far fpa fex fki}) e0 e1 e2 eP eC0 eC1;obtain⟨g,lt,o1,P,C0,C1,gop,gna,gar,gpa,gex,gki,kop,kna,kar,kpa,kex,kki,lop,lna,lar,lpa,lex,lki,e0,e1,e2,eo,eP,eC0,eC1⟩:=hI;have hS:=hS rfl (by exact e1) (by exact e2) eP eC0 eC1;(repeat'(first|refine cK ?_|(refine nK ?_;try exact zI)|refine Af λK hK=>?_|(refine Ci ?_)|((first|refine Bn ?_|refine FN (λK hK=>?_));simp only[Ty.w,simprocAttr,s2,s4,s6,s9,s10,hrk,b0,T1,bl,hrlN,q0,q1,q2])|(refine hK _ _ ?_;clear hK;(try simp only[Au,simprocAttr]))));replace zz:=Ah s2 s4 s6 s8 s9 s10 eo;refine uU zz (hc1 _) ?_;replace zz:=BT s2 s4 s6 s8 sV sL sI eo;(repeat'(first|refine cK ?_|refine nK ?_|(refine uN hK ?_;clear hK)|apply zI));exact⟨sq s2,sq s4,sq s6,sq sV,sq s8,sq sL,sq sI,sq A5,hS⟩
      |false=>
       cases q3:(kw.data.toList==(#[58,111,118,101,114]:Array UInt8).toList)with
       |true=>
        have e:DS a kw (.mk vk vv vl vc vt vs)=({a with over:=(Co (.mk vk vv vl vc vt vs)).1},(Co (.mk vk vv vl vc vt vs)).2):=(by unfold DS;simp only[show A3 kw Cj=false from q0,show A3 kw Eo=false from q1,show A3 kw F5=false from q2,show A3 kw FI=true from q3,AC,AL]);rw[e];have hc1:=λh:A1=>OM (x:=(.mk vk vv vl vc vt vs)) hvok h;generalize Co (.mk vk vv vl vc vt vs)=L at hc1;obtain⟨⟨fop,fna,far,fpa,fex,fki⟩,c⟩:=L;obtain⟨u,hu⟩:=Do c;simp only[Sx.cells,Fm.cells,hu]at hc1⊢;have hS:=λ{P C0 C1:PV}{gop gna:ByteArray}{gar:List ByteArray}{gpa:List Pm}{gex:List Ex}{gki:List Fm}{kop kna:ByteArray}{kar:List ByteArray}{kpa:List Pm}{kex:List Ex}{kki:List Fm}{lop lna:ByteArray}{lar:List ByteArray}{lpa:List Pm}{lex:List Ex}{lki:List Fm}(e0:({a with over:=Fm.mk fop fna far fpa fex fki}).start= .mk gop gna gar gpa gex gki)(e1:({a with over:=Fm.mk fop fna far fpa fex fki}).over= .mk kop kna kar kpa kex kki)(e2:({a with over:=Fm.mk fop fna far fpa fex fki}).stop= .mk lop lna lar lpa lex lki)(eP:Bc 2 (A9 ({a with over:=Fm.mk fop fna far fpa fex fki}).params) P)(eC0:Bc 15 (Ae ({a with over:=Fm.mk fop fna far fpa fex fki}).Bp) C0)(eC1:Bc 15 (Ae ({a with over:=Fm.mk fop fna far fpa fex fki}).Bq) C1)=>hI.upd (a':={a with over:=Fm.mk fop fna far fpa fex fki}) e0 e1 e2 eP eC0 eC1;obtain⟨g,lt,o1,P,C0,C1,gop,gna,gar,gpa,gex,gki,kop,kna,kar,kpa,kex,kki,lop,lna,lar,lpa,lex,lki,e0,e1,e2,eo,eP,eC0,eC1⟩:=hI;have hS:=hS (by exact e0) rfl (by exact e2) eP eC0 eC1;(repeat'(first|refine cK ?_|(refine nK ?_;try exact zI)|refine Af λK hK=>?_|(refine Ci ?_)|((first|refine Bn ?_|refine FN (λK hK=>?_));simp only[Ty.w,simprocAttr,s2,s4,s6,s9,s10,hrk,b0,T1,bl,hrlN,q0,q1,q2,q3])|(refine hK _ _ ?_;clear hK;(try simp only[Au,simprocAttr]))));replace zz:=Ah s2 s4 s6 s8 s9 s10 eo;refine uU zz (hc1 _) ?_;replace zz:=BT s2 s4 s6 s8 sV sL sI eo;(repeat'(first|refine cK ?_|refine nK ?_|(refine uN hK ?_;clear hK)|apply zI));exact⟨sq s2,sq s4,sq s6,sq sV,sq s8,sq sL,sq sI,sq A5,hS⟩
       |false=>
        cases q4:(kw.data.toList==(#[58,101,110,100]:Array UInt8).toList)with
        |true=>
         have e:DS a kw (.mk vk vv vl vc vt vs)=({a with stop:=(Co (.mk vk vv vl vc vt vs)).1},(Co (.mk vk vv vl vc vt vs)).2):=(by unfold DS;simp only[show A3 kw Cj=false from q0,show A3 kw Eo=false from q1,show A3 kw F5=false from q2,show A3 kw FI=false from q3,show A3 kw FW=true from q4,AC,AL]);rw[e];have hc1:=λh:A1=>OM (x:=(.mk vk vv vl vc vt vs)) hvok h;generalize Co (.mk vk vv vl vc vt vs)=L at hc1;obtain⟨⟨fop,fna,far,fpa,fex,fki⟩,c⟩:=L;obtain⟨u,hu⟩:=Do c;simp only[Sx.cells,Fm.cells,hu]at hc1⊢;have hS:=λ{P C0 C1:PV}{gop gna:ByteArray}{gar:List ByteArray}{gpa:List Pm}{gex:List Ex}{gki:List Fm}{kop kna:ByteArray}{kar:List ByteArray}{kpa:List Pm}{kex:List Ex}{kki:List Fm}{lop lna:ByteArray}{lar:List ByteArray}{lpa:List Pm}{lex:List Ex}{lki:List Fm}(e0:({a with stop:=Fm.mk fop fna far fpa fex fki}).start= .mk gop gna gar gpa gex gki)(e1:({a with stop:=Fm.mk fop fna far fpa fex fki}).over= .mk kop kna kar kpa kex kki)(e2:({a with stop:=Fm.mk fop fna far fpa fex fki}).stop= .mk lop lna lar lpa lex lki)(eP:Bc 2 (A9 ({a with stop:=Fm.mk fop fna far fpa fex fki}).params) P)(eC0:Bc 15 (Ae ({a with stop:=Fm.mk fop fna far fpa fex fki}).Bp) C0)(eC1:Bc 15 (Ae ({a with stop:=Fm.mk fop fna far fpa fex fki}).Bq) C1)=>hI.upd (a':={a with stop:=Fm.mk fop fna far fpa fex fki}) e0 e1 e2 eP eC0 eC1;obtain⟨g,lt,o1,P,C0,C1,gop,gna,gar,gpa,gex,gki,kop,kna,kar,kpa,kex,kki,lop,lna,lar,lpa,lex,lki,e0,e1,e2,eo,eP,eC0,eC1⟩:=hI;have hS:=hS (by exact e0) (by exact e1) rfl eP eC0 eC1;(repeat'(first|refine cK ?_|(refine nK ?_;try exact zI)|refine Af λK hK=>?_|(refine Ci ?_)|((first|refine Bn ?_|refine FN (λK hK=>?_));simp only[Ty.w,simprocAttr,s2,s4,s6,s9,s10,hrk,b0,T1,bl,hrlN,q0,q1,q2,q3,q4])|(refine hK _ _ ?_;clear hK;(try simp only[Au,simprocAttr]))));replace zz:=Ah s2 s4 s6 s8 s9 s10 eo;refine uU zz (hc1 _) ?_;replace zz:=BT s2 s4 s6 s8 sV sL sI eo;(repeat'(first|refine cK ?_|refine nK ?_|(refine uN hK ?_;clear hK)|apply zI));exact⟨sq s2,sq s4,sq s6,sq sV,sq s8,sq sL,sq sI,sq A5,hS⟩
        |false=>
         cases q5:(kw.data.toList==(#[58,97,116,45,115,116,97,114,116]:Array UInt8).toList)with
         |true=>
          have e:DS a kw (.mk vk vv vl vc vt vs)=({a with Bp:=(En (.mk vk vv vl vc vt vs)).1},(En (.mk vk vv vl vc vt vs)).2):=(by unfold DS;simp only[show A3 kw Cj=false from q0,show A3 kw Eo=false from q1,show A3 kw F5=false from q2,show A3 kw FI=false from q3,show A3 kw FW=false from q4,show A3 kw Fk=true from q5,AC,AL]);rw[e];have hc1:=λh:A1=>Sr (x:=(.mk vk vv vl vc vt vs)) hvok h;generalize En (.mk vk vv vl vc vt vs)=L at hc1;obtain⟨l,c⟩:=L;obtain⟨u,hu⟩:=Do c;simp only[Sx.cells,hu]at hc1⊢;have hS:=λ{P C0 C1:PV}{gop gna:ByteArray}{gar:List ByteArray}{gpa:List Pm}{gex:List Ex}{gki:List Fm}{kop kna:ByteArray}{kar:List ByteArray}{kpa:List Pm}{kex:List Ex}{kki:List Fm}{lop lna:ByteArray}{lar:List ByteArray}{lpa:List Pm}{lex:List Ex}{lki:List Fm}(e0:({a with Bp:=l}).start= .mk gop gna gar gpa gex gki)(e1:({a with Bp:=l}).over= .mk kop kna kar kpa kex kki)(e2:({a with Bp:=l}).stop= .mk lop lna lar lpa lex lki)(eP:Bc 2 (A9 ({a with Bp:=l}).params) P)(eC0:Bc 15 (Ae ({a with Bp:=l}).Bp) C0)(eC1:Bc 15 (Ae ({a with Bp:=l}).Bq) C1)=>hI.upd (a':={a with Bp:=l}) e0 e1 e2 eP eC0 eC1;obtain⟨g,lt,o1,P,C0,C1,gop,gna,gar,gpa,gex,gki,kop,kna,kar,kpa,kex,kki,lop,lna,lar,lpa,lex,lki,e0,e1,e2,eo,eP,eC0,eC1⟩:=hI;have hS:=hS (by exact e0) (by exact e1) (by exact e2) eP (.inl rfl) eC1;(repeat'(first|refine cK ?_|(refine nK ?_;try exact zI)|refine Af λK hK=>?_|(refine Ci ?_)|((first|refine Bn ?_|refine FN (λK hK=>?_));simp only[Ty.w,simprocAttr,s2,s4,s6,s9,s10,hrk,b0,T1,bl,hrlN,q0,q1,q2,q3,q4,q5])|(refine hK _ _ ?_;clear hK;(try simp only[Au,simprocAttr]))));replace zz:=Ah s2 s4 s6 s8 s9 s10 eo;refine uU zz (hc1 _) ?_;replace zz:=BT s2 s4 s6 s8 sV sL sI eo;(repeat'(first|refine cK ?_|refine nK ?_|(refine uN hK ?_;clear hK)|apply zI));exact⟨sq s2,sq s4,sq s6,sq sV,sq s8,sq sL,sq sI,sq A5,hS⟩
         |false=>
          have e:DS a kw (.mk vk vv vl vc vt vs)=({a with Bq:=(En (.mk vk vv vl vc vt vs)).1},(En (.mk vk vv vl vc vt vs)).2):=(by unfold DS;simp only[show A3 kw Cj=false from q0,show A3 kw Eo=false from q1,show A3 kw F5=false from q2,show A3 kw FI=false from q3,show A3 kw FW=false from q4,show A3 kw Fk=false from q5,AC,AL]);rw[e];have hc1:=λh:A1=>Sr (x:=(.mk vk vv vl vc vt vs)) hvok h;generalize En (.mk vk vv vl vc vt vs)=L at hc1;obtain⟨l,c⟩:=L;obtain⟨u,hu⟩:=Do c;simp only[Sx.cells,hu]at hc1⊢;have hS:=λ{P C0 C1:PV}{gop gna:ByteArray}{gar:List ByteArray}{gpa:List Pm}{gex:List Ex}{gki:List Fm}{kop kna:ByteArray}{kar:List ByteArray}{kpa:List Pm}{kex:List Ex}{kki:List Fm}{lop lna:ByteArray}{lar:List ByteArray}{lpa:List Pm}{lex:List Ex}{lki:List Fm}(e0:({a with Bq:=l}).start= .mk gop gna gar gpa gex gki)(e1:({a with Bq:=l}).over= .mk kop kna kar kpa kex kki)(e2:({a with Bq:=l}).stop= .mk lop lna lar lpa lex lki)(eP:Bc 2 (A9 ({a with Bq:=l}).params) P)(eC0:Bc 15 (Ae ({a with Bq:=l}).Bp) C0)(eC1:Bc 15 (Ae ({a with Bq:=l}).Bq) C1)=>hI.upd (a':={a with Bq:=l}) e0 e1 e2 eP eC0 eC1;obtain⟨g,lt,o1,P,C0,C1,gop,gna,gar,gpa,gex,gki,kop,kna,kar,kpa,kex,kki,lop,lna,lar,lpa,lex,lki,e0,e1,e2,eo,eP,eC0,eC1⟩:=hI;have hS:=hS (by exact e0) (by exact e1) (by exact e2) eP eC0 (.inl rfl);(repeat'(first|refine cK ?_|(refine nK ?_;try exact zI)|refine Af λK hK=>?_|(refine Ci ?_)|((first|refine Bn ?_|refine FN (λK hK=>?_));simp only[Ty.w,simprocAttr,s2,s4,s6,s9,s10,hrk,b0,T1,bl,hrlN,q0,q1,q2,q3,q4,q5])|(refine hK _ _ ?_;clear hK;(try simp only[Au,simprocAttr]))));replace zz:=Ah s2 s4 s6 s8 s9 s10 eo;refine uU zz (hc1 _) ?_;replace zz:=BT s2 s4 s6 s8 sV sL sI eo;(repeat'(first|refine cK ?_|refine nK ?_|(refine uN hK ?_;clear hK)|apply zI));exact⟨sq s2,sq s4,sq s6,sq sV,sq s8,sq sL,sq sI,sq A5,hS⟩
   ·generalize DS a kw (.mk vk vv vl vc vt vs)=A at hF;obtain⟨a',c⟩:=A;simp only at hF;(try clear zz);clear s2 s4 s6 sV s8 sL sI s9 s10 hI hrk hvok hvsm S H;rintro S H ⟨s2,s4,s6,sV,s8,sL,sI,s5,hI⟩;simp only at s5 hI;cases hcc2:c==0 with
    |false=>
     have er:AS c=Ao c:=(by simp only[AS,hcc2,AL]);rw[hcc2]at hF;simp only[AL]at hF;have hF2:F=(a',c):=(by rw[hF];unfold T7;simp only[hcc2,AL]);rw[er]at s5;simp only[Ao]at s5;obtain⟨g,lt,o1,P,C0,C1,gop,gna,gar,gpa,gex,gki,kop,kna,kar,kpa,kex,kki,lop,lna,lar,lpa,lex,lki,e0,e1,e2,eo,eP,eC0,eC1⟩:=hI;have cP:=eP.cell;have cC0:=eC0.cell;have cC1:=eC1.cell;have n1:(h.next=h.next+1)=False:=BB (by omega);replace zz:=BO s2 s4 s5 eo o1 n1 cP cC0 cC1;refine wt zz ?_;exact HC.fin hF2 er g (by exact e0) (by exact e1) (by exact e2) eP eC0 eC1
    |true=>
     have er:AS c= .sc .nilIface:=(by simp only[AS,hcc2,AC]);rw[hcc2]at hF;simp only[AC]at hF;rw[er]at s5;replace zz:=BO s2 s4 s5 s6 s8 sV sL sI w7;refine wt zz ?_;exact⟨ps.length-(k+1),by omega,k+1,a',rfl,by omega,rfl,hI,hF⟩
  ·have hd:decide ((k:Int)<(ps.length:Int))=false:=(by simp;omega);rw[List.drop_eq_nil_of_le (by omega)]at hF;have hF2:F=(a,lc):=(by rw[hF];try rfl);obtain⟨g,lt,o1,P,C0,C1,gop,gna,gar,gpa,gex,gki,kop,kna,kar,kpa,kex,kki,lop,lna,lar,lpa,lex,lki,e0,e1,e2,eo,eP,eC0,eC1⟩:=hI;have cP:=eP.cell;have cC0:=eC0.cell;have cC1:=eC1.cell;have n1:(h.next=h.next+1)=False:=BB (by omega);replace zz:=Ab s2 s4 s8 sL sI hd eo o1 n1 cP cC0 cC1;refine wt zz ?_;exact HC.fin hF2 hlu g (by exact e0) (by exact e1) (by exact e2) eP eC0 eC1
structure Fp(h0:A1)(id:Nat)(h:A1):Prop where
 le:h0.next<=h.next
 B6: ∀ j,j<h0.next->j≠id->h.obj j=h0.obj j
theorem Fp.set{h0 h:A1}{id:Nat}(g:Fp h0 id h)(o:An):Fp h0 id (h.set id o):=⟨g.le,λj hj hne=>(Az hne).trans (g.B6 j hj hne)⟩
theorem Fp.new{h0 h:A1}{id:Nat}(g:Fp h0 id h)(o:An):Fp h0 id (h.new o):=⟨by simp only[A1.new];have:=g.le;omega,λj hj hne=>(Dt (by have:=g.le;omega)).trans (g.B6 j hj hne)⟩
theorem Fp.tmp{h0 h:A1}{id:Nat}(g:Fp h0 id h)(o o':An):Fp h0 id (HO h o o'):=⟨by rw[IP];have:=g.le;omega,λj hj hne=>(IQ (by have:=g.le;omega)).trans (g.B6 j hj hne)⟩
structure DT(h0:A1)(id:Nat)(d:Dm)(h:A1):Prop where
 grow:Fp h0 id h
 Bu:id<h0.next/\id<h.next
 ex: ∃ t c p f a u,h.obj id=some (.arr 7 [[A4 d.name,t,c,p,f,a,u]])/\Bc 2 (A9 d.types) t/\Bc 2 (A9 d.constants) c/\
  Tl h h0.next 2 p (Ba d.B5)/\Tl h h0.next 4 f (BX d.Ay)/\Tl h h0.next 10 a (BP d.At)/\Tl h h0.next 23 u (BU d.duratives)
theorem DT.tmp{h0 h:A1}{id:Nat}{d:Dm}(i:DT h0 id d h)(o o':An):DT h0 id d (HO h o o'):=by
 obtain⟨g,l,t,c,p,f,a,u,e0,e1,e2,e3,e4,e5,e6⟩:=i;exact⟨g.tmp o o',⟨l.1,by rw[IP];omega⟩,t,c,p,f,a,u,by rw[IQ l.2];exact e0,e1,e2,e3.tmp o o',e4.tmp o o',e5.tmp o o',e6.tmp o o'⟩
theorem DT.types{h0 h:A1}{id:Nat}{d:Dm}{t c p f a u:PV}{l:List Pm}(g:Fp h0 id h)(Bu:id<h0.next/\id<h.next)(e2:Bc 2 (A9 d.constants) c)(e3:Tl h h0.next 2 p (Ba d.B5))(e4:Tl h h0.next 4 f (BX d.Ay))(e5:Tl h h0.next 10 a (BP d.At))(e6:Tl h h0.next 23 u (BU d.duratives)):
  DT h0 id {d with types:=l} (h.set id (.arr 7 [[A4 d.name,.A2 2 (A9 l),c,p,f,a,u]])):=
 ⟨g.set _,⟨Bu.1,Bu.2⟩,.A2 2 (A9 l),c,p,f,a,u,DC,.inl rfl,e2,e3.E4 Bu.1 _,e4.E4 Bu.1 _,e5.E4 Bu.1 _,e6.E4 Bu.1 _⟩
theorem DT.consts{h0 h:A1}{id:Nat}{d:Dm}{t c p f a u:PV}{l:List Pm}(g:Fp h0 id h)(Bu:id<h0.next/\id<h.next)(e1:Bc 2 (A9 d.types) t)(e3:Tl h h0.next 2 p (Ba d.B5))(e4:Tl h h0.next 4 f (BX d.Ay))(e5:Tl h h0.next 10 a (BP d.At))(e6:Tl h h0.next 23 u (BU d.duratives)):
  DT h0 id {d with constants:=l} (h.set id (.arr 7 [[A4 d.name,t,.A2 2 (A9 l),p,f,a,u]])):=
 ⟨g.set _,⟨Bu.1,Bu.2⟩,t,.A2 2 (A9 l),p,f,a,u,DC,e1,.inl rfl,e3.E4 Bu.1 _,e4.E4 Bu.1 _,e5.E4 Bu.1 _,e6.E4 Bu.1 _⟩
theorem nH(l:List Pr)(a:Pr):Ba l++[Dr a]=Ba (l++[a]):=by simp[Ba]
theorem DT.pM{h0 h:A1}{id:Nat}{d:Dm}{t c p f a u:PV}(x:Pr)(g:Fp h0 id h)(Bu:id<h0.next/\id<h.next)(e0:h.obj id=some (.arr 7 [[A4 d.name,t,c,p,f,a,u]]))(e1:Bc 2 (A9 d.types) t)(e2:Bc 2 (A9 d.constants) c)(e3:Tl h h0.next 2 p (Ba d.B5))(e4:Tl h h0.next 4 f (BX d.Ay))(e5:Tl h h0.next 10 a (BP d.At))(e6:Tl h h0.next 23 u (BU d.duratives)):
  ∃ H,EW h p=some (H,Ba d.B5)/\De h 2 p=true/\H.next=h.next/\H.obj id=some (.arr 7 [[A4 d.name,t,c,p,f,a,u]])/\
   DT h0 id {d with B5:=d.B5++[x]} ((H.new (.arr 2 (Ba (d.B5++[x])))).set id (.arr 7 [[A4 d.name,t,c,.own h.next 0 (d.B5.length+1),f,a,u]])):=by
 obtain⟨H,t1,t2,t3,t4,t5⟩:=e3.tail;have hle:=g.le;have hk:Fp h0 id H:=⟨by omega,λj hj hne=>(t4 j hj).trans (g.B6 j hj hne)⟩;refine⟨H,t1,t2,t3,(t4 _ Bu.1).trans e0,(hk.new _).set _,⟨Bu.1,by simp only[A1.set,A1.new];omega⟩,t,c,.own h.next 0 (d.B5.length+1),f,a,u,DC,e1,e2,?_,?_,?_,?_⟩
 ·rw [← t3];exact(Tl.grow (id0:=h0.next) (H:=H) (z:=2) (len:=d.B5.length+1) (rows:=Ba (d.B5++[x])) (by omega) (by simp[Mi])).E4 Bu.1 _
 ·exact (((Tl.Hc e3 e4 (by decide) t1 t3).up (h':=H.new (.arr 2 (Ba (d.B5++[x])))) (by simp only[A1.new];omega) λj _ hj=>Dt hj)).E4 Bu.1 _
 ·exact (((Tl.Hc e3 e5 (by decide) t1 t3).up (h':=H.new (.arr 2 (Ba (d.B5++[x])))) (by simp only[A1.new];omega) λj _ hj=>Dt hj)).E4 Bu.1 _
 ·exact (((Tl.Hc e3 e6 (by decide) t1 t3).up (h':=H.new (.arr 2 (Ba (d.B5++[x])))) (by simp only[A1.new];omega) λj _ hj=>Dt hj)).E4 Bu.1 _
theorem nI(l:List Fu)(a:Fu):BX l++[Ds a]=BX (l++[a]):=by simp[BX]
theorem DT.pN{h0 h:A1}{id:Nat}{d:Dm}{t c p f a u:PV}(x:Fu)(g:Fp h0 id h)(Bu:id<h0.next/\id<h.next)(e0:h.obj id=some (.arr 7 [[A4 d.name,t,c,p,f,a,u]]))(e1:Bc 2 (A9 d.types) t)(e2:Bc 2 (A9 d.constants) c)(e3:Tl h h0.next 2 p (Ba d.B5))(e4:Tl h h0.next 4 f (BX d.Ay))(e5:Tl h h0.next 10 a (BP d.At))(e6:Tl h h0.next 23 u (BU d.duratives)):
  ∃ H,EW h f=some (H,BX d.Ay)/\De h 4 f=true/\H.next=h.next/\H.obj id=some (.arr 7 [[A4 d.name,t,c,p,f,a,u]])/\
   DT h0 id {d with Ay:=d.Ay++[x]} ((H.new (.arr 4 (BX (d.Ay++[x])))).set id (.arr 7 [[A4 d.name,t,c,p,.own h.next 0 (d.Ay.length+1),a,u]])):=by
 obtain⟨H,t1,t2,t3,t4,t5⟩:=e4.tail;have hle:=g.le;have hk:Fp h0 id H:=⟨by omega,λj hj hne=>(t4 j hj).trans (g.B6 j hj hne)⟩;refine⟨H,t1,t2,t3,(t4 _ Bu.1).trans e0,(hk.new _).set _,⟨Bu.1,by simp only[A1.set,A1.new];omega⟩,t,c,p,.own h.next 0 (d.Ay.length+1),a,u,DC,e1,e2,?_,?_,?_,?_⟩
 ·exact (((Tl.Hc e4 e3 (by decide) t1 t3).up (h':=H.new (.arr 4 (BX (d.Ay++[x])))) (by simp only[A1.new];omega) λj _ hj=>Dt hj)).E4 Bu.1 _
 ·rw [← t3];exact(Tl.grow (id0:=h0.next) (H:=H) (z:=4) (len:=d.Ay.length+1) (rows:=BX (d.Ay++[x])) (by omega) (by simp[Mj])).E4 Bu.1 _
 ·exact (((Tl.Hc e4 e5 (by decide) t1 t3).up (h':=H.new (.arr 4 (BX (d.Ay++[x])))) (by simp only[A1.new];omega) λj _ hj=>Dt hj)).E4 Bu.1 _
 ·exact (((Tl.Hc e4 e6 (by decide) t1 t3).up (h':=H.new (.arr 4 (BX (d.Ay++[x])))) (by simp only[A1.new];omega) λj _ hj=>Dt hj)).E4 Bu.1 _
theorem nJ(l:List Ac)(a:Ac):BP l++[DE a]=BP (l++[a]):=by simp[BP]
theorem DT.pO{h0 h:A1}{id:Nat}{d:Dm}{t c p f a u:PV}(x:Ac)(g:Fp h0 id h)(Bu:id<h0.next/\id<h.next)(e0:h.obj id=some (.arr 7 [[A4 d.name,t,c,p,f,a,u]]))(e1:Bc 2 (A9 d.types) t)(e2:Bc 2 (A9 d.constants) c)(e3:Tl h h0.next 2 p (Ba d.B5))(e4:Tl h h0.next 4 f (BX d.Ay))(e5:Tl h h0.next 10 a (BP d.At))(e6:Tl h h0.next 23 u (BU d.duratives)):
  ∃ H,EW h a=some (H,BP d.At)/\De h 10 a=true/\H.next=h.next/\H.obj id=some (.arr 7 [[A4 d.name,t,c,p,f,a,u]])/\
   DT h0 id {d with At:=d.At++[x]} ((H.new (.arr 10 (BP (d.At++[x])))).set id (.arr 7 [[A4 d.name,t,c,p,f,.own h.next 0 (d.At.length+1),u]])):=by
 obtain⟨H,t1,t2,t3,t4,t5⟩:=e5.tail;have hle:=g.le;have hk:Fp h0 id H:=⟨by omega,λj hj hne=>(t4 j hj).trans (g.B6 j hj hne)⟩;refine⟨H,t1,t2,t3,(t4 _ Bu.1).trans e0,(hk.new _).set _,⟨Bu.1,by simp only[A1.set,A1.new];omega⟩,t,c,p,f,.own h.next 0 (d.At.length+1),u,DC,e1,e2,?_,?_,?_,?_⟩
 ·exact (((Tl.Hc e5 e3 (by decide) t1 t3).up (h':=H.new (.arr 10 (BP (d.At++[x])))) (by simp only[A1.new];omega) λj _ hj=>Dt hj)).E4 Bu.1 _
 ·exact (((Tl.Hc e5 e4 (by decide) t1 t3).up (h':=H.new (.arr 10 (BP (d.At++[x])))) (by simp only[A1.new];omega) λj _ hj=>Dt hj)).E4 Bu.1 _
 ·rw [← t3];exact(Tl.grow (id0:=h0.next) (H:=H) (z:=10) (len:=d.At.length+1) (rows:=BP (d.At++[x])) (by omega) (by simp[Ll])).E4 Bu.1 _
 ·exact (((Tl.Hc e5 e6 (by decide) t1 t3).up (h':=H.new (.arr 10 (BP (d.At++[x])))) (by simp only[A1.new];omega) λj _ hj=>Dt hj)).E4 Bu.1 _
theorem nL(l:List Du)(a:Du):BU l++[DF a]=BU (l++[a]):=by simp[BU]
theorem DT.pP{h0 h:A1}{id:Nat}{d:Dm}{t c p f a u:PV}(x:Du)(g:Fp h0 id h)(Bu:id<h0.next/\id<h.next)(e0:h.obj id=some (.arr 7 [[A4 d.name,t,c,p,f,a,u]]))(e1:Bc 2 (A9 d.types) t)(e2:Bc 2 (A9 d.constants) c)(e3:Tl h h0.next 2 p (Ba d.B5))(e4:Tl h h0.next 4 f (BX d.Ay))(e5:Tl h h0.next 10 a (BP d.At))(e6:Tl h h0.next 23 u (BU d.duratives)):
  ∃ H,EW h u=some (H,BU d.duratives)/\De h 23 u=true/\H.next=h.next/\H.obj id=some (.arr 7 [[A4 d.name,t,c,p,f,a,u]])/\
   DT h0 id {d with duratives:=d.duratives++[x]} ((H.new (.arr 23 (BU (d.duratives++[x])))).set id (.arr 7 [[A4 d.name,t,c,p,f,a,.own h.next 0 (d.duratives.length+1)]])):=by
 obtain⟨H,t1,t2,t3,t4,t5⟩:=e6.tail;have hle:=g.le;have hk:Fp h0 id H:=⟨by omega,λj hj hne=>(t4 j hj).trans (g.B6 j hj hne)⟩;refine⟨H,t1,t2,t3,(t4 _ Bu.1).trans e0,(hk.new _).set _,⟨Bu.1,by simp only[A1.set,A1.new];omega⟩,t,c,p,f,a,.own h.next 0 (d.duratives.length+1),DC,e1,e2,?_,?_,?_,?_⟩
 ·exact (((Tl.Hc e6 e3 (by decide) t1 t3).up (h':=H.new (.arr 23 (BU (d.duratives++[x])))) (by simp only[A1.new];omega) λj _ hj=>Dt hj)).E4 Bu.1 _
 ·exact (((Tl.Hc e6 e4 (by decide) t1 t3).up (h':=H.new (.arr 23 (BU (d.duratives++[x])))) (by simp only[A1.new];omega) λj _ hj=>Dt hj)).E4 Bu.1 _
 ·exact (((Tl.Hc e6 e5 (by decide) t1 t3).up (h':=H.new (.arr 23 (BU (d.duratives++[x])))) (by simp only[A1.new];omega) λj _ hj=>Dt hj)).E4 Bu.1 _
 ·rw [← t3];exact(Tl.grow (id0:=h0.next) (H:=H) (z:=23) (len:=d.duratives.length+1) (rows:=BU (d.duratives++[x])) (by omega) (by simp[Lm])).E4 Bu.1 _
theorem nM{x:Sx}(hsm:x.small){w:ByteArray}{l:List Sx}(h:Bt x=some (w,l)): ∀ y∈l,y.small:=by
 obtain⟨kind,value,line,col,text,kids⟩:=x;obtain⟨y,rfl,_,_⟩:=N9 h;simp only[Sx.small]at hsm;have:=Sx.Eh.1 hsm.2;exact λz hz=>this z (by simp[hz])
theorem nN{h0:A1}{id:Nat}{d:Dm}{x:Sx}{w:ByteArray}{rest:List Sx}(hD:Bt x=some (w,rest))(hok:x.ok)(hsm:x.small)(hb1:d.B5.length<=1099511627776)(hb2:d.Ay.length<=1099511627776)(hb3:d.At.length<=4294967296)(hb4:d.duratives.length<=4294967296)(h:A1)(hI:DT h0 id d h):
  A6 prog 61 [.ptr id 0 0,.agg x.cells] h λr h'=>r=AS (D1 d w rest x).2/\DT h0 id (D1 d w rest x).1 h':=by
 obtain⟨_,hl,hlo⟩:=LI hok hsm hD;have hls:=nM hsm hD;have hxo:=hok;have hxs:=hsm;obtain⟨kind,value,line,col,text,kids⟩:=x;obtain⟨yk,yv,yl,yc,ys,hkd,r0,q0,q1',ht,hws,hrl⟩:=NF hok hD;have hll:=Sx.B4 rest;simp only[Sx.cells];generalize hR:Sx.rows kids=R at r0 q0 q1' ht hrl
 clear hD hok hsm hkd;cases qa:(w.data.toList==(#[58,114,101,113,117,105,114,101,109,101,110,116,115]:Array UInt8).toList)with
 |true=>
  have e:D1 d w rest (.mk kind value line col text kids)=(d,0):=by unfold D1;simp only[show A3 w FK=true from qa,AC,AL]
  rw[e]
  clear e;refine AF func61 ntmps61 results61 Ty.Kp ?_;replace zz:=BT r0 q0 qa q1' ht hll @CT @Ce;refine wt zz ?_;first|exact hI|exact⟨rfl,hI⟩
 |false=>
  cases qb:(w.data.toList==(#[58,116,121,112,101,115]:Array UInt8).toList)with
  |true=>
   have e:D1 d w rest (.mk kind value line col text kids)=({d with types:=(C5 false rest).1},(C5 false rest).2):=(by unfold D1;simp only[show A3 w FK=false from qa,show A3 w Dl=true from qb,AC,AL]);rw[e];clear e;have hp:=λh:A1=>M3 (vars:=false) hl hlo h;generalize C5 false rest=L at hp⊢;obtain⟨l,cc⟩:=L;obtain⟨cu,hu⟩:=Do cc;simp only[hu]at hp⊢;obtain⟨g,Bu,t,c,p,f,a,u,e0,e1,e2,e3,e4,e5,e6⟩:=hI;refine AF func61 ntmps61 results61 Ty.Kp ?_;replace zz:=BO r0 q0 qa qb q1' ht hll @CT @Ce;refine wt zz ?_;refine uU (uu r0 q0) (hp _) ?_;replace zz:=Ah r0 q0 r0 q0 qa qb e0;refine wt zz ?_;first|exact DT.types (d:=d) (t:=t) (c:=c) (l:=l) g Bu e2 e3 e4 e5 e6|exact⟨rfl,DT.types (d:=d) (t:=t) (c:=c) (l:=l) g Bu e2 e3 e4 e5 e6⟩
  |false=>
   cases qc:(w.data.toList==(#[58,99,111,110,115,116,97,110,116,115]:Array UInt8).toList)with
   |true=>
    have e:D1 d w rest (.mk kind value line col text kids)=({d with constants:=(C5 false rest).1},(C5 false rest).2):=(by unfold D1;simp only[show A3 w FK=false from qa,show A3 w Dl=false from qb,show A3 w Dw=true from qc,AC,AL]);rw[e];clear e;have hp:=λh:A1=>M3 (vars:=false) hl hlo h;generalize C5 false rest=L at hp⊢;obtain⟨l,cc⟩:=L;obtain⟨cu,hu⟩:=Do cc;simp only[hu]at hp⊢;obtain⟨g,Bu,t,c,p,f,a,u,e0,e1,e2,e3,e4,e5,e6⟩:=hI;refine AF func61 ntmps61 results61 Ty.Kp ?_;replace zz:=B9 r0 q0 qa qb qc q1' ht hll @CT @Ce;refine wt zz ?_;refine uU (uu r0 q0) (hp _) ?_;replace zz:=BT r0 q0 r0 q0 qa qb qc e0;refine wt zz ?_;first|exact DT.consts (d:=d) (t:=t) (c:=c) (l:=l) g Bu e1 e3 e4 e5 e6|exact⟨rfl,DT.consts (d:=d) (t:=t) (c:=c) (l:=l) g Bu e1 e3 e4 e5 e6⟩
   |false=>
    cases qd:(w.data.toList==(#[58,112,114,101,100,105,99,97,116,101,115]:Array UInt8).toList)with
    |true=>
     have e:D1 d w rest (.mk kind value line col text kids)=({d with B5:=(Gb d.B5 rest).1},(Gb d.B5 rest).2):=(by unfold D1;simp only[show A3 w FK=false from qa,show A3 w Dl=false from qb,show A3 w Dw=false from qc,show A3 w E1=true from qd,AC,AL]);rw[e];clear e;generalize hE:Gb d.B5 rest=E;refine AF func61 ntmps61 results61 Ty.Kp ?_;replace zz:=EI r0 q0 qa qb qc qd q1' ht hll @CT @Ce;refine wt zz ?_;refine CG (λm S H=>S 0= .ptr id 0 0/\S 55= .A2 6 (Sx.rows rest)/\S 56= .sc (.int .i64 rest.length)/\ ∃ (k:Nat)(L:List Pr),S 57= .sc (.int .i64 k)/\k<=rest.length/\m=rest.length-k/\L.length<=d.B5.length+k/\DT h0 id {d with B5:=L} H/\E=Gb L (rest.drop k)) rest.length ?_ ?_
     ·simp only[Ty.w,simprocAttr];exact⟨0,d.B5,rfl,BY _,rfl,AG _,hI,by rw[List.drop_zero];exact hE.symm⟩
     clear hI hE;rintro m S H ⟨s0,sV,sN,k,L,sI,hk,rfl,hL,hI,hE⟩;by_cases hlt:k<rest.length
     ·have hd:decide ((k:Int)<(rest.length:Int))=true:=(by simp;omega);have w7:IntKind.i64.wrap ((k:Int)+1)=((k+1:Nat):Int):=(by rw[BZ (by omega) (by omega)];omega);obtain⟨y,hx⟩: ∃ y,rest[k]? =some y:=⟨_,List.getElem?_eq_getElem hlt⟩;have hr:=Sx.CL hx;have hmem:=List.mem_of_getElem? hx;have hc:=λh:A1=>mo (hlo y hmem) (hls y hmem) h;rw[Cd hx]at hE;simp only[Gb]at hE;generalize HV y=A at hE hc;obtain⟨x0,cc⟩:=A;simp only at hE hc;clear hx hmem;obtain⟨vk,vv,vl,vc,vt,vs⟩:=y;simp only[Sx.cells]at hr hc;obtain⟨cu,hu⟩:=Do cc;have hap:=nH L x0;replace zz:=Al s0 sV sN sI hd hr;refine xG 16 zz ?_;refine⟨?_⟩;refine H4 9 rfl (sq A5) (λn H=>FC n H (.mk vk vv vl vc vt vs)) ?_;refine Cq (λS H=>S 0= .ptr id 0 0/\S 55= .A2 6 (Sx.rows rest)/\S 56= .sc (.int .i64 rest.length)/\S 57= .sc (.int .i64 k)/\S 9= .Ag [.sc (.int .i64 vk),.sc (.int .i64 vv),.sc (.int .i64 vl),.sc (.int .i64 vc),A4 vt,.A2 6 (Sx.rows vs)]/\DT h0 id {d with B5:=L} H) ⟨sq s0,sq sV,sq sN,sq sI,by simp only[Ty.w,simprocAttr,Sx.cells],hI.tmp _ _⟩ ?_;clear s0 sV sN sI hI hr hd;rintro S H ⟨s0,sV,sN,sI,s9,hI⟩;obtain⟨pn,pp⟩:=x0;simp only[Dr]at hc hap;cases hcc:cc==0 with
      |false=>
       have e0':AS cc=Ao cc:=(by simp only[AS,hcc,AL]);rw[hcc]at hE;simp only[AL]at hE;rw[e0']at hc;simp only[Ao]at hc;refine wt s9 ?_;replace zz:=Ak s0 sV sN sI s9;refine uU zz (hc _) ?_;refine xH 17 (uu s0 @B1) ?_;refine⟨?_⟩;refine H4 10 rfl (sq A5) (λn H=>by simp only[AP];exact⟨Bk,BA (C6 n _),trivial⟩) ?_;have hI2:=hI.tmp (.arr 2 [[.sc (.string ⟨#[]⟩),.sc (.slice none 0 0)]]) (.arr 2 [[A4 pn,.A2 2 (A9 pp)]]);refine wt s0 ?_;subst hE;exact⟨e0'.symm,hI2⟩
      |true=>
       have e0':AS cc= .sc .nilIface:=(by simp only[AS,hcc,AC]);rw[hcc]at hE;simp only[AC]at hE;rw[e0']at hc;refine wt s9 ?_;replace zz:=Ak s0 sV sN sI s9;refine uU zz (hc _) ?_;refine xH 17 (uu s0 @B1) ?_;refine⟨?_⟩;refine H4 10 rfl (sq A5) (λn H=>by simp only[AP];exact⟨Bk,BA (C6 n _),trivial⟩) ?_;refine Cq (λS H=>S 0= .ptr id 0 0/\S 55= .A2 6 (Sx.rows rest)/\S 56= .sc (.int .i64 rest.length)/\S 57= .sc (.int .i64 k)/\S 10= .Ag [A4 pn,.A2 2 (A9 pp)]/\S 11= .sc .nilIface/\DT h0 id {d with B5:=L} H) ⟨sq s0,sq sV,sq sN,sq sI,sq A5,sq A5,hI.tmp _ _⟩ ?_;clear s0 sV sN sI s9 hI hc;rintro S h' ⟨s0,sV,sN,sI,s9,s10,hI⟩;obtain⟨g,Bu,t,c,p,f,a,u,e0,e1,e2,e3,e4,e5,e6⟩:=hI;obtain⟨H,t1,t2,t3,eH,hP⟩:=DT.pM ⟨pn,pp⟩ g Bu e0 e1 e2 e3 e4 e5 e6;simp only at t1 t2 eH hP e0;have hri:=Mi L;have hbb:(L.length+1)*40<=140737488355328:=(by omega);have n2:(id=H.next)=False:=(by simp;omega);have n3:(id=h'.next)=False:=(by simp;omega);have hpc:=e3.cell;replace zz:=Ab s0 s9 s10 sV sN sI w7 e0 eH n2 n3 (Ah t1 t2 t3 hri hbb hpc hap);refine wy zz ?_;(try simp only[Au,simprocAttr]);replace zz:=Ak s0 sV sN sI w7;refine wt zz ?_;first
        |exact⟨rest.length-(k+1),by omega,k+1,L++[⟨pn,pp⟩],rfl,by omega,rfl,by simp;omega,hP,hE⟩
        |exact⟨rest.length-(k+1),by omega,sq s0,sq sV,sq sN,k+1,L++[⟨pn,pp⟩],sq A5,by omega,rfl,by simp;omega,hP,hE⟩
     ·have hd:decide ((k:Int)<(rest.length:Int))=false:=(by simp;omega);rw[List.drop_eq_nil_of_le (by omega)]at hE;simp only[Gb]at hE;subst hE;replace zz:=Ak s0 sV sN sI hd;refine wt zz ?_;first|exact hI|exact⟨rfl,hI⟩
    |false=>
     cases qe:(w.data.toList==(#[58,102,117,110,99,116,105,111,110,115]:Array UInt8).toList)with
     |true=>
      have e:D1 d w rest (.mk kind value line col text kids)=({d with Ay:=(Gc d.Ay rest).1},(Gc d.Ay rest).2):=(by unfold D1;simp only[show A3 w FK=false from qa,show A3 w Dl=false from qb,show A3 w Dw=false from qc,show A3 w E1=false from qd,show A3 w E2=true from qe,AC,AL]);rw[e];clear e;generalize hE:Gc d.Ay rest=E;refine AF func61 ntmps61 results61 Ty.Kp ?_;replace zz:=Ab r0 q0 qa qb qc qd qe q1' ht hll @CT @Ce;refine wt zz ?_;refine CG (λm S H=>S 0= .ptr id 0 0/\S 82= .A2 6 (Sx.rows rest)/\S 83= .sc (.int .i64 rest.length)/\ ∃ (k:Nat)(L:List Fu),S 84= .sc (.int .i64 k)/\k<=rest.length/\m=rest.length-k/\L.length<=d.Ay.length+k/\DT h0 id {d with Ay:=L} H/\E=Gc L (rest.drop k)) rest.length ?_ ?_
      ·simp only[Ty.w,simprocAttr];exact⟨0,d.Ay,rfl,BY _,rfl,AG _,hI,by rw[List.drop_zero];exact hE.symm⟩
      clear hI hE;rintro m S H ⟨s0,sV,sN,k,L,sI,hk,rfl,hL,hI,hE⟩;by_cases hlt:k<rest.length
      ·have hd:decide ((k:Int)<(rest.length:Int))=true:=(by simp;omega);have w7:IntKind.i64.wrap ((k:Int)+1)=((k+1:Nat):Int):=(by rw[BZ (by omega) (by omega)];omega);obtain⟨y,hx⟩: ∃ y,rest[k]? =some y:=⟨_,List.getElem?_eq_getElem hlt⟩;have hr:=Sx.CL hx;have hmem:=List.mem_of_getElem? hx;have hc:=λh:A1=>mu (hlo y hmem) (hls y hmem) h;rw[Cd hx]at hE;simp only[Gc]at hE;generalize HW y=A at hE hc;obtain⟨x0,cc⟩:=A;simp only at hE hc;clear hx hmem;obtain⟨vk,vv,vl,vc,vt,vs⟩:=y;simp only[Sx.cells]at hr hc;obtain⟨cu,hu⟩:=Do cc;have hap:=nI L x0;replace zz:=Al s0 sV sN sI hd hr;refine xG 26 zz ?_;refine⟨?_⟩;refine H4 13 rfl (sq A5) (λn H=>FC n H (.mk vk vv vl vc vt vs)) ?_;refine Cq (λS H=>S 0= .ptr id 0 0/\S 82= .A2 6 (Sx.rows rest)/\S 83= .sc (.int .i64 rest.length)/\S 84= .sc (.int .i64 k)/\S 13= .Ag [.sc (.int .i64 vk),.sc (.int .i64 vv),.sc (.int .i64 vl),.sc (.int .i64 vc),A4 vt,.A2 6 (Sx.rows vs)]/\DT h0 id {d with Ay:=L} H) ⟨sq s0,sq sV,sq sN,sq sI,by simp only[Ty.w,simprocAttr,Sx.cells],hI.tmp _ _⟩ ?_;clear s0 sV sN sI hI hr hd;rintro S H ⟨s0,sV,sN,sI,s9,hI⟩;obtain⟨pn,pp,plo,phi⟩:=x0;simp only[Ds]at hc hap;cases hcc:cc==0 with
       |false=>
        have e0':AS cc=Ao cc:=(by simp only[AS,hcc,AL]);rw[hcc]at hE;simp only[AL]at hE;rw[e0']at hc;simp only[Ao]at hc;refine wt s9 ?_;replace zz:=Ak s0 sV sN sI s9;refine uU zz (hc _) ?_;refine xH 27 (uu s0 @B1) ?_;refine⟨?_⟩;refine H4 14 rfl (sq A5) (λn H=>by simp only[AP];exact⟨Bk,BA (C6 n _),Bk,Bk,trivial⟩) ?_;have hI2:=hI.tmp (.arr 4 [[.sc (.string ⟨#[]⟩),.sc (.slice none 0 0),.sc (.int .i64 0),.sc (.int .i64 0)]]) (.arr 4 [[A4 pn,.A2 2 (A9 pp),.sc (.int .i64 plo),.sc (.int .i64 phi)]]);refine wt s0 ?_;subst hE;exact⟨e0'.symm,hI2⟩
       |true=>
        have e0':AS cc= .sc .nilIface:=(by simp only[AS,hcc,AC]);rw[hcc]at hE;simp only[AC]at hE;rw[e0']at hc;refine wt s9 ?_;replace zz:=Ak s0 sV sN sI s9;refine uU zz (hc _) ?_;refine xH 27 (uu s0 @B1) ?_;refine⟨?_⟩;refine H4 14 rfl (sq A5) (λn H=>by simp only[AP];exact⟨Bk,BA (C6 n _),Bk,Bk,trivial⟩) ?_;refine Cq (λS H=>S 0= .ptr id 0 0/\S 82= .A2 6 (Sx.rows rest)/\S 83= .sc (.int .i64 rest.length)/\S 84= .sc (.int .i64 k)/\S 14= .Ag [A4 pn,.A2 2 (A9 pp),.sc (.int .i64 plo),.sc (.int .i64 phi)]/\S 15= .sc .nilIface/\DT h0 id {d with Ay:=L} H) ⟨sq s0,sq sV,sq sN,sq sI,sq A5,sq A5,hI.tmp _ _⟩ ?_;clear s0 sV sN sI s9 hI hc;rintro S h' ⟨s0,sV,sN,sI,s9,s10,hI⟩;obtain⟨g,Bu,t,c,p,f,a,u,e0,e1,e2,e3,e4,e5,e6⟩:=hI;obtain⟨H,t1,t2,t3,eH,hP⟩:=DT.pN ⟨pn,pp,plo,phi⟩ g Bu e0 e1 e2 e3 e4 e5 e6;simp only at t1 t2 eH hP e0;have hri:=Mj L;have hbb:(L.length+1)*56<=140737488355328:=(by omega);have n2:(id=H.next)=False:=(by simp;omega);have n3:(id=h'.next)=False:=(by simp;omega);have hpc:=e4.cell;replace zz:=Ab s0 s9 s10 sV sN sI w7 e0 eH n2 n3 (Ah t1 t2 t3 hri hbb hpc hap);refine wy zz ?_;(try simp only[Au,simprocAttr]);replace zz:=Ak s0 sV sN sI w7;refine wt zz ?_;first
         |exact⟨rest.length-(k+1),by omega,k+1,L++[⟨pn,pp,plo,phi⟩],rfl,by omega,rfl,by simp;omega,hP,hE⟩
         |exact⟨rest.length-(k+1),by omega,sq s0,sq sV,sq sN,k+1,L++[⟨pn,pp,plo,phi⟩],sq A5,by omega,rfl,by simp;omega,hP,hE⟩
      ·have hd:decide ((k:Int)<(rest.length:Int))=false:=(by simp;omega);rw[List.drop_eq_nil_of_le (by omega)]at hE;simp only[Gc]at hE;subst hE;replace zz:=Ak s0 sV sN sI hd;refine wt zz ?_;first|exact hI|exact⟨rfl,hI⟩
     |false=>
      cases qf:(w.data.toList==(#[58,97,99,116,105,111,110]:Array UInt8).toList)with
      |true=>
       have e:D1 d w rest (.mk kind value line col text kids)=({d with At:=d.At++[(H8 (.mk kind value line col text kids)).1]},(H8 (.mk kind value line col text kids)).2):=(by unfold D1;simp only[show A3 w FK=false from qa,show A3 w Dl=false from qb,show A3 w Dw=false from qc,show A3 w E1=false from qd,show A3 w E2=false from qe,show A3 w D0=true from qf,AC,AL]);rw[e];clear e;have hc:=λh:A1=>nD hxo hxs h;generalize H8 (.mk kind value line col text kids)=A at hc⊢;obtain⟨⟨an,ap,ac,⟨gop,gna,gar,gpa,gex,gki⟩,ach⟩,cc⟩:=A;obtain⟨cu,hu⟩:=Do cc;have hap:=nJ d.At ⟨an,ap,ac,⟨gop,gna,gar,gpa,gex,gki⟩,ach⟩;simp only[hu,Sx.cells,hR,DE,Fm.cells,List.cons_append,List.nil_append]at hc hap⊢;refine AF func61 ntmps61 results61 Ty.Kp ?_;replace zz:=Ab r0 q0 qa qb qc qd qe qf q1' ht hll (uu @CT @Ce);refine wt zz ?_;refine uU r0 (hc _) ?_;refine xG 34 @B1 ?_;refine⟨?_⟩;refine H4 16 rfl (sq A5) (λn H=>by simp only[AP];exact⟨Bk,BA (C6 n _),Bk,Bk,Bk,BA (Dc n _),BA (C6 n _),BA (E0 n _),BA (Ed n _),BA (Gm n _),trivial⟩) ?_;refine Cq (λS H=>S 0= .ptr id 0 0/\S 16= .Ag [A4 an,.A2 2 (A9 ap),.sc (.int .i64 ac),A4 gop,A4 gna,.A2 1 (AN gar),.A2 2 (A9 gpa),.A2 5 (Ex.rows gex),.A2 6 (Fm.rows gki),.A2 15 (Ae ach)]/\S 17= .sc cu/\DT h0 id d H) ⟨sq A5,sq A5,sq A5,hI.tmp _ _⟩ ?_;clear hI hc;rintro S h' ⟨s0,s9,s10,hI⟩;obtain⟨g,Bu,t,c,p,f,a,u,e0,e1,e2,e3,e4,e5,e6⟩:=hI;obtain⟨H,t1,t2,t3,eH,hP⟩:=DT.pO ⟨an,ap,ac,⟨gop,gna,gar,gpa,gex,gki⟩,ach⟩ g Bu e0 e1 e2 e3 e4 e5 e6;have hri:=Ll d.At;have hbb:(d.At.length+1)*200<=140737488355328:=(by omega);have n2:(id=H.next)=False:=(by simp;omega);have n3:(id=h'.next)=False:=(by simp;omega);have hpc:=e5.cell;replace zz:=Ab s0 s9 s10 e0 eH n2 n3 t1 t2 t3 hri (AY hbb hpc hap);refine wy zz ?_;first|exact hP|exact⟨rfl,hP⟩
      |false=>
       cases qg:(w.data.toList==(#[58,100,117,114,97,116,105,118,101,45,97,99,116,105,111,110]:Array UInt8).toList)with
       |true=>
        have e:D1 d w rest (.mk kind value line col text kids)=({d with duratives:=d.duratives++[(HA (.mk kind value line col text kids)).1]},(HA (.mk kind value line col text kids)).2):=(by unfold D1;simp only[show A3 w FK=false from qa,show A3 w Dl=false from qb,show A3 w Dw=false from qc,show A3 w E1=false from qd,show A3 w E2=false from qe,show A3 w D0=false from qf,show A3 w EN=true from qg,AC,AL]);rw[e];clear e;have hc:=λh:A1=>nG hxo hxs h;generalize HA (.mk kind value line col text kids)=A at hc⊢;obtain⟨⟨an,ap,ac,⟨gop,gna,gar,gpa,gex,gki⟩,⟨kop,kna,kar,kpa,kex,kki⟩,⟨lop,lna,lar,lpa,lex,lki⟩,ach,bch⟩,cc⟩:=A;obtain⟨cu,hu⟩:=Do cc;have hap:=nL d.duratives ⟨an,ap,ac,⟨gop,gna,gar,gpa,gex,gki⟩,⟨kop,kna,kar,kpa,kex,kki⟩,⟨lop,lna,lar,lpa,lex,lki⟩,ach,bch⟩;simp only[hu,Sx.cells,hR,DF,Fm.cells,List.cons_append,List.nil_append]at hc hap⊢;refine AF func61 ntmps61 results61 Ty.Kp ?_;replace zz:=Ab r0 q0 qa qb qc qd qe qf qg q1' ht (AY hll @CT @Ce);refine wt zz ?_;refine uU r0 (hc _) ?_;refine xG 38 @B1 ?_;refine⟨?_⟩;refine H4 18 rfl (sq A5) (λn H=>by simp only[AP];exact⟨Bk,BA (C6 n _),Bk,Bk,Bk,BA (Dc n _),BA (C6 n _),BA (E0 n _),BA (Ed n _),Bk,Bk,BA (Dc n _),BA (C6 n _),BA (E0 n _),BA (Ed n _),Bk,Bk,BA (Dc n _),BA (C6 n _),BA (E0 n _),BA (Ed n _),BA (Gm n _),BA (Gm n _),trivial⟩) ?_;refine Cq (λS H=>S 0= .ptr id 0 0/\S 18= .Ag [A4 an,.A2 2 (A9 ap),.sc (.int .i64 ac),A4 gop,A4 gna,.A2 1 (AN gar),.A2 2 (A9 gpa),.A2 5 (Ex.rows gex),.A2 6 (Fm.rows gki),A4 kop,A4 kna,.A2 1 (AN kar),.A2 2 (A9 kpa),.A2 5 (Ex.rows kex),.A2 6 (Fm.rows kki),A4 lop,A4 lna,.A2 1 (AN lar),.A2 2 (A9 lpa),.A2 5 (Ex.rows lex),.A2 6 (Fm.rows lki),.A2 15 (Ae ach),.A2 15 (Ae bch)]/\S 19= .sc cu/\DT h0 id d H) ⟨sq A5,sq A5,sq A5,hI.tmp _ _⟩ ?_;clear hI hc;rintro S h' ⟨s0,s9,s10,hI⟩;obtain⟨g,Bu,t,c,p,f,a,u,e0,e1,e2,e3,e4,e5,e6⟩:=hI;obtain⟨H,t1,t2,t3,eH,hP⟩:=DT.pP ⟨an,ap,ac,⟨gop,gna,gar,gpa,gex,gki⟩,⟨kop,kna,kar,kpa,kex,kki⟩,⟨lop,lna,lar,lpa,lex,lki⟩,ach,bch⟩ g Bu e0 e1 e2 e3 e4 e5 e6;have hri:=Lm d.duratives;have hbb:(d.duratives.length+1)*480<=140737488355328:=(by omega);have n2:(id=H.next)=False:=(by simp;omega);have n3:(id=h'.next)=False:=(by simp;omega);have hpc:=e6.cell;replace zz:=Ab s0 s9 s10 e0 eH n2 n3 t1 t2 t3 hri (AY hbb hpc hap);refine wy zz ?_;first|exact hP|exact⟨rfl,hP⟩
       |false=>
        have e:D1 d w rest (.mk kind value line col text kids)=(d,2):=(by unfold D1;simp only[show A3 w FK=false from qa,show A3 w Dl=false from qb,show A3 w Dw=false from qc,show A3 w E1=false from qd,show A3 w E2=false from qe,show A3 w D0=false from qf,show A3 w EN=false from qg,AC,AL]);rw[e];clear e;refine AF func61 ntmps61 results61 Ty.Kp ?_;replace zz:=Ab r0 q0 qa qb qc qd qe qf qg q1' ht (AY hll @CT @Ce);refine wt zz ?_;first|exact hI|exact⟨rfl,hI⟩
set_option maxHeartbeats 4000000
theorem Of{v:Bool}{l:List Sx}(h: ∀ x∈l,x.ok): ∀ p∈(C5 v l).1,p.ok:=
 (Sd v l.length l (AG _) h [] [] (by simp) (by simp)).1
theorem Y3{x:Sx}(hok:x.ok)(hsm:x.small):(GJ x).1.length<=1048576/\ ∀ p∈(GJ x).1,p.ok:=by
 unfold GJ;cases Ax x==3 with
 |false=>simp
 |true=>
  obtain⟨kind,value,line,col,text,kids⟩:=x;simp only[Sx.ok]at hok;simp only[Sx.small]at hsm;simp only[AC,C9];exact⟨ES (OS true kids) hsm.1,Of (Sx.Bz.1 hok.2.2.2.2)⟩
theorem Y4{x:Sx}(hok:x.ok):(En x).1.length<=1048576/\ ∀ c∈(En x).1,c.ok/\FV c:=by
 unfold En;split
 ·rename_i v;have hsm:=Kx v;have hnd:=((JQ x 0 0 (by omega) (by omega)).1.1 v).2.2;have hS:Dv.KZ ⟨[],[]⟩ x.nodes:=⟨by simp,by simp only[List.length_nil];omega,by simp,by simp only[List.length_nil];omega⟩;have hcs:=Sn _ x (AG _) ⟨[],[]⟩ hok hsm hS;have hln:=QJ _ x (AG _) ⟨[],[]⟩;split
  ·split
   ·exact ⟨by simp only;omega,hcs⟩
   ·simp
  ·simp
 ·simp
theorem T8{x:Sx}(hok:x.ok): -9223372036854775808<=LB x/\LB x<=9223372036854775807:=by
 obtain⟨kind,value,line,col,text,kids⟩:=x;simp only[Sx.ok]at hok;exact hok.2.1
theorem Y5{x:Sx}(hok:x.ok): -9223372036854775808<=(FL x).1/\(FL x).1<=9223372036854775807:=by
 unfold FL;cases Ax x==2 with
 |false=>simp
 |true=>exact T8 hok
theorem Y6{x:Sx}(hok:x.ok):(Dn x).1.size<=AI:=by
 have h0:(⟨#[]⟩:ByteArray).size<=AI:=by decide
 obtain⟨kind,value,line,col,text,kids⟩:=x;simp only[Sx.ok]at hok;have hk:=Sx.Bz.1 hok.2.2.2.2;unfold Dn;simp only[C9];rcases kids with _|⟨a,_|⟨n,rest⟩⟩
 ·exact h0
 ·exact h0
 ·simp only;cases Ax n==1 with
  |false=>exact h0
  |true=>
   cases As (Aj n)with
   |false=>exact h0
   |true=>exact OH (hk n (by simp))
def MJ(a:Ac):Prop:=a.ok/\OP a
def MK(a:Du):Prop:=a.ok/\OQ a
theorem LN:Bw.ok/\Bw.small:=X8
theorem nO{n:ByteArray}(h:n.size<=AI):MJ (ER n):=
 ⟨⟨h,⟨by simp[ER,AI],by simp[ER]⟩,by simp[ER],LN.1,⟨by simp[ER,AI],by simp[ER]⟩⟩,⟨by simp[ER],LN.2,by simp[ER],by simp[ER]⟩⟩
theorem nP{n:ByteArray}(h:n.size<=AI):MK (DW n):=
 ⟨⟨h,⟨by simp[DW,AI],by simp[DW]⟩,by simp[DW],LN.1,LN.1,LN.1,⟨by simp[DW,AI],by simp[DW]⟩,⟨by simp[DW,AI],by simp[DW]⟩⟩,⟨by simp[DW],LN.2,LN.2,LN.2,⟨by simp[DW],by simp[DW]⟩,⟨by simp[DW],by simp[DW]⟩⟩⟩
theorem I2{n:Nat}(h:n<=1048576):n<=AI:=by unfold AI;omega
theorem nQ{a:Ac}(h:MJ a){k:ByteArray}{v:Sx}(hok:v.ok)(hsm:v.small):MJ (EP a k v).1:=by
 obtain⟨⟨h1,h2,h3,h4,h5⟩,⟨s1,s2,s3,s4⟩⟩:=h;unfold EP;cases A3 k Cj with
 |true=>have p:=Y3 hok hsm;exact⟨⟨h1,⟨I2 p.1,p.2⟩,h3,h4,h5⟩,⟨p.1,s2,s3,s4⟩⟩
 |false=>
  cases A3 k G6 with
  |true=>exact⟨⟨h1,h2,Y5 hok,h4,h5⟩,⟨s1,s2,s3,s4⟩⟩
  |false=>
   cases A3 k GY with
   |true=>have p:=Se hok;exact⟨⟨h1,h2,h3,p.1,h5⟩,⟨s1,p.2,s3,s4⟩⟩
   |false=>have p:=Y4 hok;exact⟨⟨h1,h2,h3,h4,⟨I2 p.1,λc hc=>(p.2 c hc).1⟩⟩,⟨s1,s2,p.1,λc hc=>(p.2 c hc).2⟩⟩
theorem Y7: ∀ (l:List (ByteArray × Sx)){a:Ac},MJ a->(∀ kv∈l,kv.2.ok/\kv.2.small)->MJ (H7 a l).1
 |[],a,h,_=>h
 |kv::l,a,h,hl=>by
  have h1:=nQ h (k:=kv.1) (hl kv (by simp)).1 (hl kv (by simp)).2;unfold H7;cases(EP a kv.1 kv.2).2==0 with
  |true=>exact Y7 l h1 λq hq=>hl q (by simp[hq])
  |false=>exact h1
theorem nR{a:Du}(h:MK a){k:ByteArray}{v:Sx}(hok:v.ok)(hsm:v.small):MK (DS a k v).1:=by
 obtain⟨⟨h1,h2,h3,h4,h5,h6,h7,h8⟩,⟨s1,s2,s3,s4,s5,s6⟩⟩:=h;unfold DS;cases A3 k Cj with
 |true=>have p:=Y3 hok hsm;exact⟨⟨h1,⟨I2 p.1,p.2⟩,h3,h4,h5,h6,h7,h8⟩,⟨p.1,s2,s3,s4,s5,s6⟩⟩
 |false=>
  cases A3 k Eo with
  |true=>exact⟨⟨h1,h2,Y5 hok,h4,h5,h6,h7,h8⟩,⟨s1,s2,s3,s4,s5,s6⟩⟩
  |false=>
   have p:=Se hok;have e:=Y4 hok;cases A3 k F5 with
   |true=>exact⟨⟨h1,h2,h3,p.1,h5,h6,h7,h8⟩,⟨s1,p.2,s3,s4,s5,s6⟩⟩
   |false=>
    cases A3 k FI with
    |true=>exact⟨⟨h1,h2,h3,h4,p.1,h6,h7,h8⟩,⟨s1,s2,p.2,s4,s5,s6⟩⟩
    |false=>
     cases A3 k FW with
     |true=>exact⟨⟨h1,h2,h3,h4,h5,p.1,h7,h8⟩,⟨s1,s2,s3,p.2,s5,s6⟩⟩
     |false=>
      cases A3 k Fk with
      |true=>exact⟨⟨h1,h2,h3,h4,h5,h6,⟨I2 e.1,λc hc=>(e.2 c hc).1⟩,h8⟩,⟨s1,s2,s3,s4,⟨e.1,λc hc=>(e.2 c hc).2⟩,s6⟩⟩
      |false=>exact⟨⟨h1,h2,h3,h4,h5,h6,h7,⟨I2 e.1,λc hc=>(e.2 c hc).1⟩⟩,⟨s1,s2,s3,s4,s5,⟨e.1,λc hc=>(e.2 c hc).2⟩⟩⟩
theorem Y8: ∀ (l:List (ByteArray × Sx)){a:Du},MK a->(∀ kv∈l,kv.2.ok/\kv.2.small)->MK (H9 a l).1
 |[],a,h,_=>h
 |kv::l,a,h,hl=>by
  have h1:=nR h (k:=kv.1) (hl kv (by simp)).1 (hl kv (by simp)).2;unfold H9;cases(DS a kv.1 kv.2).2==0 with
  |true=>exact Y8 l h1 λq hq=>hl q (by simp[hq])
  |false=>exact h1
theorem T9: ∀ (l:List Sx)(kws:List ByteArray), ∀ kv∈(CK l kws).1,kv.2∈l
 |[],_,kv,h=>by simp[CK]at h
 |[_],_,kv,h=>by simp[CK]at h
 |a::v::rest,kws,kv,h=>by
  simp only[CK]at h;cases k:Ax a==1 with
  |false=>rw[k]at h;simp at h
  |true=>
   rw[k,AC]at h;cases ha:IT kws (Aj a)with
   |none=>rw[ha]at h;simp at h
   |some k'=>
    rw[ha]at h;simp only[List.mem_cons]at h;rcases h with rfl|h
    ·simp
    ·have:=T9 rest k' kv h;simp[this]
theorem TA{x:Sx}(hok:x.ok)(hsm:x.small): ∀ k∈C9 x,k.ok/\k.small:=by
 obtain⟨kind,value,line,col,text,kids⟩:=x;simp only[Sx.ok]at hok;simp only[Sx.small]at hsm;exact λk hk=>⟨Sx.Bz.1 hok.2.2.2.2 k hk,Sx.Eh.1 hsm.2 k hk⟩
theorem nS{x:Sx}(hok:x.ok)(hsm:x.small):MJ (H8 x).1:=by
 have h0:=nO (Y6 hok);have hk:=TA hok hsm;have hp:=Y7 (CK ((C9 x).drop 2) Ib).1 h0 (λkv hkv=>hk _ (List.mem_of_mem_drop (T9 _ _ kv hkv)));unfold H8;cases(Dn x).2==0 with
 |false=>exact h0
 |true=>
  simp only[AC];cases(H7 (ER (Dn x).1) (CK ((C9 x).drop 2) Ib).1).2==0<;>exact hp
theorem nT{x:Sx}(hok:x.ok)(hsm:x.small):MK (HA x).1:=by
 have h0:=nP (Y6 hok);have hk:=TA hok hsm;have hp:=Y8 (CK ((C9 x).drop 2) Ic).1 h0 (λkv hkv=>hk _ (List.mem_of_mem_drop (T9 _ _ kv hkv)));unfold HA;cases(Dn x).2==0 with
 |false=>exact h0
 |true=>
  simp only[AC];cases(H9 (DW (Dn x).1) (CK ((C9 x).drop 2) Ic).1).2==0<;>exact hp
def Og(p:Pr):Prop:=p.ok/\p.params.length<=1048576
def Oh(p:Fu):Prop:=p.ok/\p.params.length<=1048576
theorem YA:Og LM:=⟨⟨by decide,by simp[LM,AI],by simp[LM]⟩,by simp[LM]⟩
theorem QW:Oh I1:=⟨⟨by decide,⟨by simp[I1,AI],by simp[I1]⟩,by simp[I1],by simp[I1]⟩,by simp[I1]⟩
theorem nU{x:Sx}(hok:x.ok)(hsm:x.small):Og (HV x).1:=by
 unfold HV;cases hD:Bt x with
 |none=>exact YA
 |some wl=>
  obtain⟨w,l⟩:=wl;obtain⟨h1,h2,h3⟩:=LI hok hsm hD;simp only;cases As w with
  |false=>exact YA
  |true=>have:=OS true l;exact⟨⟨h1,⟨I2 (ES this h2),Of h3⟩⟩,ES this h2⟩
theorem nW{x:Sx}(hok:x.ok)(hsm:x.small):Oh (HW x).1:=by
 unfold HW;cases hD:Bt x with
 |none=>exact QW
 |some wl=>
  obtain⟨w,l⟩:=wl;obtain⟨h1,h2,h3⟩:=LI hok hsm hD;simp only;split
  ·rename_i lo hi he;have m1:lo∈l:=List.mem_of_mem_drop (by rw[he];simp);have m2:hi∈l:=List.mem_of_mem_drop (by rw[he];simp);cases Ax lo==2&&Ax hi==2 with
   |false=>exact QW
   |true=>
    simp only[AC];cases As w with
    |false=>exact QW
    |true=>
     have h4:=OS true (l.take (l.length-2));rw[List.length_take]at h4;have h5:(C5 true (l.take (l.length-2))).1.length<=1048576:=(by omega);exact⟨⟨h1,⟨I2 h5,Of λy hy=>h3 y (List.mem_of_mem_take hy)⟩,T8 (h3 lo m1),T8 (h3 hi m2)⟩,h5⟩
  ·exact QW
theorem YB: ∀ (l:List Sx)(p:List Pr),(∀ x∈l,x.ok/\x.small)->(∀ q∈p,Og q)->(∀ q∈(Gb p l).1,Og q)/\(Gb p l).1.length<=p.length+l.length
 |[],p,_,hp=>⟨hp,by simp[Gb]⟩
 |x::l,p,hl,hp=>by
  have h1:=nU (hl x (by simp)).1 (hl x (by simp)).2;unfold Gb;cases(HV x).2==0 with
  |false=>exact⟨hp,by simp⟩
  |true=>
   have:=YB l (p++[(HV x).1]) (λy hy=>hl y (by simp[hy])) (λq hq=>by
    rcases List.mem_append.1 hq with hq|hq
    ·exact hp q hq
    ·simp only[List.mem_singleton]at hq;subst hq;exact h1)
   simp only[List.length_append,List.length_cons,List.length_nil]at this;exact⟨this.1,by simp only[AC,List.length_cons];omega⟩
theorem YC: ∀ (l:List Sx)(p:List Fu),(∀ x∈l,x.ok/\x.small)->(∀ q∈p,Oh q)->(∀ q∈(Gc p l).1,Oh q)/\(Gc p l).1.length<=p.length+l.length
 |[],p,_,hp=>⟨hp,by simp[Gc]⟩
 |x::l,p,hl,hp=>by
  have h1:=nW (hl x (by simp)).1 (hl x (by simp)).2;unfold Gc;cases(HW x).2==0 with
  |false=>exact⟨hp,by simp⟩
  |true=>
   have:=YC l (p++[(HW x).1]) (λy hy=>hl y (by simp[hy])) (λq hq=>by
    rcases List.mem_append.1 hq with hq|hq
    ·exact hp q hq
    ·simp only[List.mem_singleton]at hq;subst hq;exact h1)
   simp only[List.length_append,List.length_cons,List.length_nil]at this;exact⟨this.1,by simp only[AC,List.length_cons];omega⟩
structure Ge(d:Dm)(n:Nat):Prop where
 name:d.name.size<=AI
 types:d.types.length<=1048576/\ ∀ p∈d.types,p.ok
 consts:d.constants.length<=1048576/\ ∀ p∈d.constants,p.ok
 Ka:d.B5.length+n<=1048576/\ ∀ p∈d.B5,Og p
 Kb:d.Ay.length+n<=1048576/\ ∀ p∈d.Ay,Oh p
 Kd:d.At.length+n<=1048576/\ ∀ p∈d.At,MJ p
 LU:d.duratives.length+n<=1048576/\ ∀ p∈d.duratives,MK p
theorem Ge.ok{d:Dm}{n:Nat}(h:Ge d n):d.ok:=by
 obtain⟨h1,h2,h3,h4,h5,h6,h7⟩:=h;exact⟨h1,⟨I2 h2.1,h2.2⟩,⟨I2 h3.1,h3.2⟩,⟨I2 (by omega),λp hp=>(h4.2 p hp).1⟩,⟨I2 (by omega),λp hp=>(h5.2 p hp).1⟩,⟨I2 (by omega),λp hp=>(h6.2 p hp).1⟩,⟨I2 (by omega),λp hp=>(h7.2 p hp).1⟩⟩
theorem Ge.sm{d:Dm}{n:Nat}(h:Ge d n):OX d:=by
 obtain⟨h1,h2,h3,h4,h5,h6,h7⟩:=h;exact⟨h2.1,h3.1,⟨by omega,λp hp=>(h4.2 p hp).2⟩,⟨by omega,λp hp=>(h5.2 p hp).2⟩,⟨by omega,λp hp=>(h6.2 p hp).2⟩,⟨by omega,λp hp=>(h7.2 p hp).2⟩⟩
theorem Ge.mono{d:Dm}{n m:Nat}(h:Ge d n)(hm:m<=n):Ge d m:=by
 obtain⟨h1,h2,h3,h4,h5,h6,h7⟩:=h;exact⟨h1,h2,h3,⟨by omega,h4.2⟩,⟨by omega,h5.2⟩,⟨by omega,h6.2⟩,⟨by omega,h7.2⟩⟩
theorem TB{x:Sx}(hok:x.ok)(hsm:x.small){w:ByteArray}{l:List Sx}(h:Bt x=some (w,l)):(∀ y∈l,y.ok/\y.small)/\l.length<x.nodes:=by
 have hk:=TA hok hsm;obtain⟨kind,value,line,col,text,kids⟩:=x;obtain⟨y,rfl,_,_⟩:=N9 h;refine⟨λz hz=>hk z (by simp[C9,hz]),?_⟩;have hl: ∀ l:List Sx,l.length<=Sx.Aw l:=λl=>by
  induction l with
  |nil=>simp
  |cons a l ih=>have:=Sx.I8 a;simp only[List.length_cons,Sx.Aw];omega
 have:=hl l;have:=Sx.I8 y;simp only[Sx.nodes,Sx.Aw];omega
theorem YD{d:Dm}{n:Nat}{w:ByteArray}{rest:List Sx}{x:Sx}(hok:x.ok)(hsm:x.small)(hD:Bt x=some (w,rest))(h:Ge d (n+x.nodes)):Ge (D1 d w rest x).1 n:=by
 obtain⟨hb,hln⟩:=TB hok hsm hD;obtain⟨_,hl,hlo⟩:=LI hok hsm hD;have h':=h.mono (Qe n x.nodes);obtain⟨h1,h2,h3,h4,h5,h6,h7⟩:=h;obtain⟨g1,g2,g3,g4,g5,g6,g7⟩:=h';have hpl:=OS false rest;unfold D1;cases A3 w FK with
 |true=>exact⟨g1,g2,g3,g4,g5,g6,g7⟩
 |false=>
  cases A3 w Dl with
  |true=>exact⟨g1,⟨ES hpl hl,Of hlo⟩,g3,g4,g5,g6,g7⟩
  |false=>
   cases A3 w Dw with
   |true=>exact⟨g1,g2,⟨ES hpl hl,Of hlo⟩,g4,g5,g6,g7⟩
   |false=>
    cases A3 w E1 with
    |true=>have p:=YB rest d.B5 hb h4.2;exact⟨g1,g2,g3,⟨by show(Gb d.B5 rest).1.length+n<=_;omega,p.1⟩,g5,g6,g7⟩
    |false=>
     cases A3 w E2 with
     |true=>have p:=YC rest d.Ay hb h5.2;exact⟨g1,g2,g3,g4,⟨by show(Gc d.Ay rest).1.length+n<=_;omega,p.1⟩,g6,g7⟩
     |false=>
      cases A3 w D0 with
      |true=>
       have p:=nS hok hsm;refine⟨g1,g2,g3,g4,g5,⟨by show(d.At++[(H8 x).1]).length+n<=_;simp;omega,λq hq=>?_⟩,g7⟩;rcases List.mem_append.1 hq with hq|hq
       ·exact h6.2 q hq
       ·simp only[List.mem_singleton]at hq;subst hq;exact p
      |false=>
       cases A3 w EN with
       |true=>
        have p:=nT hok hsm;refine⟨g1,g2,g3,g4,g5,g6,⟨by show(d.duratives++[(HA x).1]).length+n<=_;simp;omega,λq hq=>?_⟩⟩;rcases List.mem_append.1 hq with hq|hq
        ·exact h7.2 q hq
        ·simp only[List.mem_singleton]at hq;subst hq;exact p
       |false=>exact⟨g1,g2,g3,g4,g5,g6,g7⟩
theorem YE: ∀ (l:List Sx)(d:Dm)(seen:List ByteArray),(∀ x∈l,x.ok/\x.small)->Ge d (Sx.Aw l)->Ge (Jg d seen l).1 0
 |[],d,seen,_,h=>h.mono (BY _)
 |k::l,d,seen,hl,h=>by
  have hk:=hl k (by simp);simp only[Sx.Aw]at h;have hs:Ge (F6 d seen k).1 (Sx.Aw l):=by
   unfold F6;cases hD:Bt k with
   |none=>exact h.mono (by omega)
   |some wr=>
    obtain⟨w,rest⟩:=wr;have:=YD (n:=Sx.Aw l) hk.1 hk.2 hD (by rw[TN];exact h);simp only;cases MF.any (A3 w)with
    |false=>exact this
    |true=>
     simp only[AC];cases seen.any (A3 w)with
     |true=>exact h.mono (by omega)
     |false=>exact this
  unfold Jg;cases(F6 d seen k).2.2==0 with
  |false=>exact hs.mono (BY _)
  |true=>exact YE l _ _ (λx hx=>hl x (by simp[hx])) hs
theorem ML{n:Nat}(hn:n<=1048576):Ge Fl n:=
 ⟨by decide,by simp[Fl],by simp[Fl],⟨by simp[Fl];omega,by simp[Fl]⟩,⟨by simp[Fl];omega,by simp[Fl]⟩,⟨by simp[Fl];omega,by simp[Fl]⟩,⟨by simp[Fl];omega,by simp[Fl]⟩⟩
theorem TC{n:Nat}{s:ByteArray}(hs:s.size<=AI)(hn:n<=1048576):Ge (Fo s) n:=
 ⟨hs,by simp[Fo],by simp[Fo],⟨by simp[Fo];omega,by simp[Fo]⟩,⟨by simp[Fo];omega,by simp[Fo]⟩,⟨by simp[Fo];omega,by simp[Fo]⟩,⟨by simp[Fo];omega,by simp[Fo]⟩⟩
theorem YF{x:Sx}{want:ByteArray}(hok:x.ok):(HQ x want).1.size<=AI:=by
 have h0:(⟨#[]⟩:ByteArray).size<=AI:=by decide
 unfold HQ;cases hD:Bt x with
 |none=>exact h0
 |some wr=>
  obtain⟨w,rest⟩:=wr;simp only;cases A3 w want with
  |false=>exact h0
  |true=>
   simp only[AC]
   match rest,hD with
   |[],_=>exact h0
   |[r],hD=>
    simp only;obtain⟨kind,value,line,col,text,kids⟩:=x;obtain⟨y,rfl,_,_⟩:=N9 hD;simp only[Sx.ok]at hok;have hr:=Sx.Bz.1 hok.2.2.2.2 r (by simp);cases Ax r==1 with
    |false=>exact h0
    |true=>
     cases As (Aj r)with
     |false=>exact h0
     |true=>exact OH hr
   |_::_::_,_=>exact h0
theorem YG{x:Sx}(hok:x.ok)(hsm:x.small)(hn:x.nodes<=4096):Ge (Jh x).1 0:=by
 unfold Jh;cases hD:Bt x with
 |none=>exact ML (by omega)
 |some wr=>
  obtain⟨w,rest⟩:=wr;simp only;cases A3 w Dk with
  |false=>exact ML (by omega)
  |true=>
   simp only[AC];cases rest with
   |nil=>exact ML (by omega)
   |cons n secs=>
    simp only;have hb:=TB hok hsm hD;have hnd:Sx.Aw secs<=x.nodes:=by
     obtain⟨kind,value,line,col,text,kids⟩:=x;obtain⟨y,rfl,_,_⟩:=N9 hD;simp only[Sx.nodes,Sx.Aw];omega
    cases(HQ n Cv).2==0 with
    |false=>exact ML (by omega)
    |true=>exact YE secs _ _ (λy hy=>hb.1 y (by simp[hy])) (TC (YF (hb.1 n (by simp)).1) (by omega))
theorem nY{x:Sx}(hok:x.ok):Ge (KL x).1 0:=by
 unfold KL;split
 ·rename_i v;have hnd:=((JQ x 0 0 (by omega) (by omega)).1.1 v).2.2;split
  ·split
   ·exact YG hok (Kx v) (by omega)
   ·exact ML (by omega)
  ·exact ML (by omega)
 ·exact ML (by omega)
set_option maxHeartbeats 8000000
abbrev MM:List PV:=[.sc (.string ⟨#[]⟩),.sc (.slice none 0 0),.sc (.slice none 0 0),.sc (.slice none 0 0),.sc (.slice none 0 0),.sc (.slice none 0 0),.sc (.slice none 0 0)]
def Ie(l:List ByteArray):List (Value × PV):=l.map λw=>(.string w,.sc (.bool true))
theorem NZ(a b:ByteArray):(a==b)=A3 a b:=by
 obtain⟨a⟩:=a;obtain⟨b⟩:=b;show(a==b)=(a.toList==b.toList);rw[Yh,Eg,Eg];exact Array.toList_inj.symm
theorem YH(w:ByteArray): ∀ l:List ByteArray,Hf (.string w) (Ie l)=some (bif l.any (A3 w)then some (.sc (.bool true))else none)
 |[]=>rfl
 |a::l=>by
  have ih:=YH w l;simp only[Ie]at ih;simp only[Ie,List.map_cons,Hf,IB,NZ,List.any_cons];cases A3 w a with
  |true=>rfl
  |false=>simpa using ih
theorem YI{w:ByteArray}: ∀ {l:List ByteArray},l.any (A3 w)=false->IC (.string w) (.sc (.bool true)) (Ie l)=some (Ie (l++[w]))
 |[],_=>rfl
 |a::l,h=>by
  simp only[List.any_cons,TJ]at h;have ih:=YI h.2;simp only[Ie]at ih;simp only[Ie,List.map_cons,IC,IB,NZ,h.1,List.cons_append];rw[ih];try rfl
theorem nZ(l:List ByteArray)(w:ByteArray):decide (HJ l w>=0)=l.any (A3 w):=by
 unfold HJ;cases h:l.findIdx? (λv=>A3 w v)with
 |none=>
  rw[List.findIdx?_eq_none_iff]at h;have:l.any (A3 w)=false:=by rw[List.any_eq_false];intro x hx;simp[h x hx]
  rw[this];decide
 |some i=>
  have h2:=List.findIdx?_eq_some_iff_findIdx_eq.1 h;have:l.any (A3 w)=true:=by
   rw[List.any_eq_true];have hi:=h2.1;exact⟨l[i],List.getElem_mem hi,by have:=h2.2;subst this;exact List.findIdx_getElem⟩
  rw[this];simp
theorem YJ: ∀ l:List Sx,l.length<=Sx.Aw l
 |[]=>BY _
 |a::l=>by have:=YJ l;have:=Sx.I8 a;simp only[List.length_cons,Sx.Aw];omega
structure Gn(h:A1)(d:Dm)(seen:List ByteArray)(H:A1):Prop where
 ex: ∃ h0:A1,AH h h0/\h0.obj h.next=some (.arr 7 [MM])/\h0.obj (h.next+2)=some (.map (Ie seen.reverse))/\h.next+2<h0.next/\DT h0 (h.next+1) d H
theorem Gn.tmp{h H:A1}{d:Dm}{seen:List ByteArray}(i:Gn h d seen H)(o o':An):Gn h d seen (HO H o o'):=by
 obtain⟨h0,g,o1,o2,l,di⟩:=i;exact⟨h0,g,o1,o2,l,di.tmp o o'⟩
theorem Gn.facts{h H:A1}{d:Dm}{seen:List ByteArray}(i:Gn h d seen H):AH h H/\H.obj h.next=some (.arr 7 [MM])/\H.obj (h.next+2)=some (.map (Ie seen.reverse)):=by
 obtain⟨h0,g,o1,o2,l,di⟩:=i;have gy:=di.grow;refine⟨⟨ES g.le gy.le,λj hj=>(gy.B6 j (by have:=g.le;omega) (by omega)).trans (g.B6 j hj)⟩,(gy.B6 _ (by omega) (by omega)).trans o1,(gy.B6 _ l (by omega)).trans o2⟩
theorem Gn.decl{h H:A1}{d:Dm}{seen:List ByteArray}(i:Gn h d seen H)(w:ByteArray):Gn h d (w::seen) (H.set (h.next+2) (.map (Ie (seen.reverse++[w])))):=by
 obtain⟨h0,g,o1,o2,l,di⟩:=i;obtain⟨gy,Bu,t,c,p,f,a,u,e0,e1,e2,e3,e4,e5,e6⟩:=di;refine⟨h0.set (h.next+2) (.map (Ie (seen.reverse++[w]))),g.set (by omega) _,(Az (by omega)).trans o1,?_,l,⟨gy.le,λj hj hne=>?_⟩,⟨Bu.1,Bu.2⟩,t,c,p,f,a,u,(Az (by omega)).trans e0,e1,e2,e3.E4 l _,e4.E4 l _,e5.E4 l _,e6.E4 l _⟩
 ·rw [List.reverse_cons];exact DC
 ·by_cases hj2:j=h.next+2
  ·subst hj2;rw[DC,DC]
  ·rw [Az hj2,Az hj2];exact gy.B6 j hj hne
theorem YK{n:Nat}{H:A1}: ∀ {rows:List (List PV)},(∀ r∈rows,AP n H r r)->DA n H rows rows
 |[],_=>by simp only[DA]
 |r::rows,h=>by
  simp only[DA];exact⟨h r (by simp),YK λq hq=>h q (by simp[hq])⟩
theorem CX{n:Nat}{H:A1}{p q:PV}{l m:List PV}(h:AJ n H p q)(h2:AP n H l m):AP n H (p::l) (q::m):=by
 unfold AP;exact⟨h,h2⟩
theorem KM{n:Nat}{H:A1}:AP n H [] []:=by simp only[AP]
theorem nb(n:Nat)(H:A1)(p:Pr):AP n H (Dr p) (Dr p):=CX Bk (CX (BA (C6 _ _)) KM)
theorem ng(n:Nat)(H:A1)(p:Fu):AP n H (Ds p) (Ds p):=CX Bk (CX (BA (C6 _ _)) (CX Bk (CX Bk KM)))
theorem QX{n:Nat}{H:A1}(f:Fm){l:List PV}(h:AP n H l l):AP n H (f.cells++l) (f.cells++l):=by
 obtain⟨op,na,ar,pa,ex,ki⟩:=f;simp only[Fm.cells,List.cons_append,List.nil_append];exact CX Bk (CX Bk (CX (BA (Dc _ _)) (CX (BA (C6 _ _)) (CX (BA (E0 _ _)) (CX (BA (Ed _ _)) h)))))
theorem nh(n:Nat)(H:A1)(a:Ac):AP n H (DE a) (DE a):=by
 unfold DE;exact CX Bk (CX (BA (C6 _ _)) (CX Bk (QX _ (CX (BA (Gm _ _)) KM))))
theorem ni(n:Nat)(H:A1)(a:Du):AP n H (DF a) (DF a):=by
 unfold DF;exact CX Bk (CX (BA (C6 _ _)) (CX Bk (QX _ (QX _ (QX _ (CX (BA (Gm _ _)) (CX (BA (Gm _ _)) KM)))))))
theorem QY{α:Type}(f:α->List PV)(hf: ∀ n H a,AP n H (f a) (f a))(n:Nat)(H:A1)(l:List α):DA n H (l.map f) (l.map f):=YK λr hr=>by
 rw[List.mem_map]at hr;obtain⟨a,_,rfl⟩:=hr;exact hf n H a
theorem YL(n:Nat): ∀ l:List Pr,BC n (Ba l)
 |[]=>by simp only[Ba,List.map_nil,BC]
 |p::l=>by
  have:=YL n l;simp only[Ba,List.map_cons,BC]at this⊢;refine⟨?_,this⟩;simp only[Dr,Br,Be,Fb,Dh];exact C6 _ _
theorem YM(n:Nat): ∀ l:List Fu,BC n (BX l)
 |[]=>by simp only[BX,List.map_nil,BC]
 |p::l=>by
  have:=YM n l;simp only[BX,List.map_cons,BC]at this⊢;refine⟨?_,this⟩;simp only[Ds,Br,Be,Fb,Dh];exact C6 _ _
theorem YN(n:Nat): ∀ l:List Ac,BC n (BP l)
 |[]=>by simp only[BP,List.map_nil,BC]
 |⟨an,ap,ac,⟨gop,gna,gar,gpa,gex,gki⟩,ch⟩::l=>by
  have:=YN n l;simp only[BP,List.map_cons,BC]at this⊢;refine⟨?_,this⟩;simp only[DE,Fm.cells,List.cons_append,List.nil_append,Br,Be,Fb,Dh];exact⟨C6 _ _,Dc _ _,C6 _ _,E0 _ _,Ed _ _,Gm _ _⟩
theorem YO(n:Nat): ∀ l:List Du,BC n (BU l)
 |[]=>by simp only[BU,List.map_nil,BC]
 |⟨an,ap,ac,⟨gop,gna,gar,gpa,gex,gki⟩,⟨kop,kna,kar,kpa,kex,kki⟩,⟨lop,lna,lar,lpa,lex,lki⟩,ch,cb⟩::l=>by
  have:=YO n l;simp only[BU,List.map_cons,BC]at this⊢;refine⟨?_,this⟩;simp only[DF,Fm.cells,List.cons_append,List.nil_append,Br,Be,Fb,Dh];exact⟨C6 _ _,Dc _ _,C6 _ _,E0 _ _,Ed _ _,Dc _ _,C6 _ _,E0 _ _,Ed _ _,Dc _ _,C6 _ _,E0 _ _,Ed _ _,Gm _ _,Gm _ _⟩
theorem nj(n:Nat)(H:A1)(d:Dm):AP n H d.cells d.cells:=
 CX Bk (CX (BA (C6 _ _)) (CX (BA (C6 _ _)) (CX (BA (YL _ _)) (CX (BA (YM _ _)) (CX (BA (YN _ _)) (CX (BA (YO _ _)) KM))))))
theorem Gn.drop{h H:A1}{d:Dm}{seen:List ByteArray}(i:Gn h d seen H):AJ (h.next+1) H (.Ag d.cells) (.ptr (h.next+1) 0 0):=by
 obtain⟨h0,g,o1,o2,l,di⟩:=i;obtain⟨gy,Bu,t,c,p,f,a,u,e0,e1,e2,e3,e4,e5,e6⟩:=di;simp only[AJ];refine .inr ⟨h.next+1,0,0,7,_,_,rfl,AG _,e0,rfl,?_⟩;exact CX Bk (CX (e1.CF H (C6 _ _)) (CX (e2.CF H (C6 _ _)) (CX (e3.frzR (by omega) (QY Dr nb _ _ _)) (CX (e4.frzR (by omega) (QY Ds ng _ _ _)) (CX (e5.frzR (by omega) (QY DE nh _ _ _)) (CX (e6.frzR (by omega) (QY DF ni _ _ _)) KM))))))
theorem nq{n:Nat}{H:A1}{d:Dm}{c:Int}{u:PV}(hc:AS c=u):AJ n H (.Am [.agg d.cells,AS c]) (.Am [.agg d.cells,u]):=by
 subst hc;obtain⟨u,hu⟩:=Do c;rw[hu];unfold AJ;refine⟨_,rfl,CX ?_ (CX Bk KM)⟩;unfold AJ;exact⟨_,rfl,nj n H d⟩
theorem KN{h H:A1}{X:An}{F:Dm × Int}{c:Int}{u:PV}(hF:F=(Fl,c))(hu:AS c=u)(g:AH h H):AJ h.next (H.set h.next X) (.Am [.agg F.1.cells,AS F.2]) (.Am [.agg MM,u])/\AH h (H.set h.next X):=by
 subst hF;subst hu;obtain⟨u,hu⟩:=Do c;simp only[hu];refine⟨?_,g.set (AG _) _⟩;have hn: ∀ (z:Nat)(H:A1),AJ h.next H (.A2 z []) (.sc (.slice none 0 0)):=λz H=>by simp only[AJ];exact .inr (.inl ⟨trivial,.inr A5⟩)
 unfold AJ;refine⟨_,rfl,CX ?_ (CX Bk KM)⟩;unfold AJ;exact⟨_,rfl,CX Bk (CX (hn _ _) (CX (hn _ _) (CX (hn _ _) (CX (hn _ _) (CX (hn _ _) (CX (hn _ _) KM))))))⟩
theorem YP{x:Sx}(hok:x.ok)(h:A1):A6 prog 22 [.agg x.cells] h λr h'=>r= .Am [.agg (KL x).1.cells,AS (KL x).2]/\h'=h:=by
 refine A6.CF Ty.Ln ?_;have hV:=λh:A1=>JO (x:=x) hok h;have hb:=M7 hok;generalize hF:KL x=F;unfold KL at hF;cases v:(CM x 0 0).1 with
 |false=>
  rw[v,A8 (by simp)]at hF;rw[v]at hV
  clear hb;obtain⟨kind,value,line,col,text,kids⟩:=x;simp only[Sx.cells]at hV⊢;refine AF func22 ntmps22 results22 Ty.Ln ?_;refine wt A5 ?_;refine uU yF (hV _) ?_;refine wt yF ?_;exact KN hF.symm rfl ((AH.refl h).new _)
 |true=>
  rw[v,AK rfl]at hF;rw[v]at hV;have hsm:=Kx v;have hnd:=((JQ x 0 0 (by omega) (by omega)).1.1 v).2.2;have hdo:=YG hok hsm (by omega);have hO:=λw l=>TB hok hsm (w:=w) (l:=l);generalize hP:Jh x=P at hF hdo;obtain⟨d,c⟩:=P;simp only at hF hdo;unfold Jh at hP;have hFE:¬ c=0->F=(Fl,c):=λhc=>by rw[A8 hc]at hF;exact hF.symm
  obtain⟨kind,value,line,col,text,kids⟩:=x;generalize hD:Bt (.mk kind value line col text kids)=D at hP hb hO;cases D with
  |none=>
   simp only[C4]at hP;obtain⟨_,rfl⟩:=hP;simp only[Sx.cells,MP]at hV hb⊢;refine AF func22 ntmps22 results22 Ty.Ln ?_;refine wt A5 ?_;refine uU yT (hV _) ?_;refine wt yT ?_;refine uU yF (hb _) ?_;refine wt yF ?_;exact KN (hFE (by decide)) rfl ((AH.refl h).new _)
  |some wl=>
   obtain⟨w,l⟩:=wl;obtain⟨hlb,_⟩:=hO w l rfl;obtain⟨yk,yv,yl,yc,ys,hkd,r0,q0,q1,ht,hws,hrl⟩:=NF hok hD;simp only at hP;simp only[Sx.cells,NK]at hV hb⊢;cases q2:(w.data.toList==(#[100,101,102,105,110,101]:Array UInt8).toList)with
   |false=>
    have q2':(w.data.toList !=(#[100,101,102,105,110,101]:Array UInt8).toList)=true:=(by simpa[bne]using q2);rw[show A3 w Dk=false from q2]at hP;simp only[AL,C4]at hP;obtain⟨_,rfl⟩:=hP;generalize Sx.rows kids=R at r0 q0 hV hb⊢;refine AF func22 ntmps22 results22 Ty.Ln ?_;refine wt A5 ?_;replace zz:=Ak yT r0 q0 q2 q2';refine uU zz (hV _) ?_;refine wt zz ?_;replace zz:=Ak yT r0 q0 q2 q2';refine uU zz (hb _) ?_;refine wt zz ?_;exact KN (hFE (by decide)) rfl ((AH.refl h).new _)
   |true=>
    have q2':(w.data.toList !=(#[100,101,102,105,110,101]:Array UInt8).toList)=false:=(by simpa[bne]using q2);rw[show A3 w Dk=true from q2]at hP;simp only[AC]at hP;cases l with
    |nil=>
     simp only[C4]at hP;obtain⟨_,rfl⟩:=hP;have q3:decide (((Sx.rows kids).length:Int)<2)=true:=(by rw[hrl];simp);generalize Sx.rows kids=R at r0 q0 q3 hV hb⊢;refine AF func22 ntmps22 results22 Ty.Ln ?_;refine wt A5 ?_;replace zz:=Al yT r0 q0 q2 q2' q3;refine uU zz (hV _) ?_;refine wt zz ?_;replace zz:=Al yT r0 q0 q2 q2' q3;refine uU zz (hb _) ?_;refine wt zz ?_;exact KN (hFE (by decide)) rfl ((AH.refl h).new _)
    |cons n secs=>
     simp only at hP;have q3:decide (((Sx.rows kids).length:Int)<2)=false:=(by rw[hrl];simp;omega);have q4:((1:Int)<((Sx.rows kids).length:Int))=True:=DU (by rw[hrl];simp;omega);have q5:(2:Int)<=((Sx.rows kids).length:Int):=(by rw[hrl];simp;omega);have r1:(Sx.rows kids)[1]? =some n.cells:=(by rw[hkd];exact Sx.CL rfl);have ht2:List.take (((Sx.rows kids).length:Int)-2).toNat (List.drop 2 (Sx.rows kids))=Sx.rows secs:=by
      rw[hkd];simp only[Sx.rows,List.drop_succ_cons,List.drop_zero,List.length_cons];rw[List.take_of_length_le (by omega)]
     have hsl:(Sx.rows secs).length=secs.length:=Sx.B4 secs;have hno:=hlb n (by simp);have hsb: ∀ y∈secs,y.ok/\y.small:=λy hy=>hlb y (by simp[hy]);have hsn:Sx.Aw secs<=4096:=by
      rw[hkd]at hnd;simp only[Sx.nodes,Sx.Aw]at hnd;omega
     have hsl2:secs.length<=4096:=ES (YJ secs) hsn;have hn:=λh:A1=>ml hno.1 h;have hnk:=YF (want:=Cv) hno.1;generalize hR:Sx.rows kids=R at r0 q0 q3 q4 q5 r1 ht2 hV hb⊢;clear hD hO hkd hok hsm ht hrl hlb hR hnd;generalize HQ n Cv=N at hP hn hnk;obtain⟨na,cn⟩:=N;simp only at hP hn hnk;obtain⟨nk,nv,nl,nc,nt,ns⟩:=n;simp only[Sx.cells]at r1 hn;have n1:(h.next=h.next+1)=False:=BB (by omega);cases hcn:cn==0 with
     |false=>
      rw[hcn]at hP;simp only[AL,C4]at hP;obtain⟨_,rfl⟩:=hP;have er:AS cn=Ao cn:=(by simp only[AS,hcn,AL]);rw[er]at hn;simp only[Ao]at hn;refine AF func22 ntmps22 results22 Ty.Ln ?_;refine wt A5 ?_;replace zz:=Al yT r0 q0 q2 q2' q3;refine uU zz (hV _) ?_;refine wt zz ?_;replace zz:=Al yT r0 q0 q2 q2' q3;refine uU zz (hb _) ?_;replace zz:=BT yT r0 q0 q2 q2' q3 q4 r1;refine wt zz ?_;refine uU (AY q4 r1 n1) (hn _) ?_;refine wt n1 ?_;exact KN (hFE (by simpa using hcn)) er ((((AH.refl h).new _).new _).set (by omega) _)
     |true=>
      rw[hcn]at hP;simp only[AC]at hP;have er:AS cn= .sc .nilIface:=(by simp only[AS,hcn,AC]);rw[er]at hn;refine AF func22 ntmps22 results22 Ty.Ln ?_;refine wt A5 ?_;replace zz:=Al yT r0 q0 q2 q2' q3;refine uU zz (hV _) ?_;refine wt zz ?_;replace zz:=Al yT r0 q0 q2 q2' q3;refine uU zz (hb _) ?_;replace zz:=BT yT r0 q0 q2 q2' q3 q4 r1;refine wt zz ?_;refine uU (AY q4 r1 n1) (hn _) ?_;refine xG 9 n1 ?_;refine⟨?_⟩;refine Cq (λS H=>S 1= .Ag [.sc (.int .i64 kind),.sc (.int .i64 value),.sc (.int .i64 line),.sc (.int .i64 col),A4 text,.A2 6 R]/\S 2= .ptr h.next 0 0/\S 4= .ptr (h.next+1) 0 0/\S 6= .mp (h.next+2)/\Gn h (Fo na) [] H) ?_ ?_
      ·refine ⟨sq A5,sq A5,sq A5,by simp only[Ty.w,simprocAttr]<;>rfl,⟨(((h.new (.arr 7 [MM])).new (.arr 7 [MM])).set (h.next+1) (.arr 7 [[A4 na,.sc (.slice none 0 0),.sc (.slice none 0 0),.sc (.slice none 0 0),.sc (.slice none 0 0),.sc (.slice none 0 0),.sc (.slice none 0 0)]])).new (.map []),((((AH.refl h).new _).new _).set (by omega) _).new _,?_,?_,?_,⟨⟨AG _,λj _ _=>rfl⟩,⟨by simp only[A1.new,A1.set];omega,by simp only[A1.new,A1.set];omega⟩,_,_,_,_,_,_,?_,.inr ⟨rfl,rfl⟩,.inr ⟨rfl,rfl⟩,Tl.nil,Tl.nil,Tl.nil,Tl.nil⟩⟩⟩
       ·rw [Dt (by simp only[A1.new,A1.set];omega),Az (by omega),Dt (by simp only[A1.new];omega)];simp only[A1.new,AO]
       ·simp only[A1.new,A1.set,AO];rfl
       ·simp only[A1.new,A1.set];omega
       ·rw [Dt (by simp only[A1.new,A1.set];omega),DC];rfl
      clear hV hb hn r0 q0 q2 q2' q3 q4 r1;rintro S H ⟨s1,s2,s4,s6,hI⟩;replace zz:=BO s1 s2 s4 s6 q5 ht2 hsl @CT @Ce;refine wt zz ?_;refine CG (λm S H=>S 2= .ptr h.next 0 0/\S 4= .ptr (h.next+1) 0 0/\S 6= .mp (h.next+2)/\S 53= .A2 6 (Sx.rows secs)/\S 54= .sc (.int .i64 secs.length)/\ ∃ (k:Nat)(e:Dm)(seen:List ByteArray),S 55= .sc (.int .i64 k)/\k<=secs.length/\m=secs.length-k/\Gn h e seen H/\Ge e (Sx.Aw (secs.drop k))/\Jg e seen (secs.drop k)=(d,c)) secs.length ?_ ?_
      ·simp only[Ty.w,simprocAttr,s2,s4,s6];first
        |exact⟨0,_,_,rfl,BY _,rfl,hI,by rw[List.drop_zero];exact TC hnk (by omega),by rw[List.drop_zero];exact hP⟩
        |exact⟨trivial,0,_,_,rfl,BY _,rfl,hI,by rw[List.drop_zero];exact TC hnk (by omega),by rw[List.drop_zero];exact hP⟩
      (try clear zz);clear s1 s2 s4 s6 hI hP q5 ht2 S H;rintro m S H ⟨s2,s4,s6,sV,sL,k,e,seen,sI,hk,rfl,hI,hek,hP⟩;by_cases hlt:k<secs.length
      ·have hd:decide ((k:Int)<(secs.length:Int))=true:=(by simp;omega);have w7:IntKind.i64.wrap ((k:Int)+1)=((k+1:Nat):Int):=(by rw[BZ (by omega) (by omega)];omega);obtain⟨y,hx⟩: ∃ y,secs[k]? =some y:=⟨_,List.getElem?_eq_getElem hlt⟩;have hr:=Sx.CL hx;obtain⟨hyo,hym⟩:=hsb y (List.mem_of_getElem? hx);rw[Cd hx]at hP hek;simp only[Sx.Aw]at hek;clear hx;have hby:=M7 hyo;have hse:=λ{h0:A1}{id:Nat} w rest (hD:Bt y=some (w,rest))=>nN (h0:=h0) (id:=id) (d:=e) hD hyo hym (by have:=hek.Ka.1;omega) (by have:=hek.Kb.1;omega) (by have:=hek.Kd.1;omega) (by have:=hek.LU.1;omega);have hsk:=λw rest (hD:Bt y=some (w,rest))=>YD (n:=Sx.Aw (secs.drop (k+1))) (d:=e) hyo hym hD (by rw[TN];exact hek);rw[Jg]at hP;obtain⟨vk,vv,vl,vc,vt,vs⟩:=y;simp only[Sx.cells]at hr hby hse;replace zz:=BT s2 s4 s6 sV sL sI hd hr;refine xH 12 zz ?_;refine⟨?_⟩;refine H4 8 rfl (sq A5) (λn H=>FC n H (.mk vk vv vl vc vt vs)) ?_;refine Cq (λS H=>S 2= .ptr h.next 0 0/\S 4= .ptr (h.next+1) 0 0/\S 6= .mp (h.next+2)/\S 53= .A2 6 (Sx.rows secs)/\S 54= .sc (.int .i64 secs.length)/\S 55= .sc (.int .i64 k)/\S 8= .Ag [.sc (.int .i64 vk),.sc (.int .i64 vv),.sc (.int .i64 vl),.sc (.int .i64 vc),A4 vt,.A2 6 (Sx.rows vs)]/\Gn h e seen H) ⟨sq s2,sq s4,sq s6,sq sV,sq sL,sq sI,by simp only[Ty.w,simprocAttr,Sx.cells],hI.tmp _ _⟩ ?_;clear s2 s4 s6 sV sL sI hI hr hd;rintro S H ⟨s2,s4,s6,sV,sL,sI,s8,hI⟩;obtain⟨hg,o1,o2⟩:=hI.facts;unfold F6 at hP;generalize hD:Bt (.mk vk vv vl vc vt vs)=D at hP hby hse hsk;cases D with
       |none=>
        simp only at hP;have hP2:(e,(2:Int))=(d,c):=hP;simp only[C4]at hP2;obtain⟨_,rfl⟩:=hP2;simp only[MP]at hby;refine wt s8 ?_;refine uU (uu s8 yF) (hby _) ?_;refine wt (AY s2 o1 yF) ?_;exact KN (hFE (by decide)) rfl hg
       |some wr=>
        obtain⟨w',rest'⟩:=wr;simp only at hP;simp only[NK]at hby;obtain⟨_,_,_,_,_,_,r0,q0,_,_,_,_⟩:=NF hyo hD;have hse:=λ{h0:A1}{id:Nat}=>hse (h0:=h0) (id:=id) w' rest' rfl;have hsk:=hsk w' rest' rfl;have hct:=λh:A1=>mw (h:=h) (l:=MF) (s:=w') (by decide);simp only[nZ]at hct;have hmf:=YH w' seen.reverse;rw[List.any_reverse]at hmf;have hid:=hI.decl w';generalize hdc:MF.any (A3 w')=dc at hP hct;generalize hsa:seen.any (A3 w')=sa at hP hmf;refine wt s8 ?_;refine uU (uu s8 yT) (hby _) ?_;replace zz:=Ak s2 s8 r0 q0 yT;refine xH 15 zz ?_;refine⟨?_⟩;refine Cq (λS H=>S 2= .ptr h.next 0 0/\S 4= .ptr (h.next+1) 0 0/\S 6= .mp (h.next+2)/\S 53= .A2 6 (Sx.rows secs)/\S 54= .sc (.int .i64 secs.length)/\S 55= .sc (.int .i64 k)/\S 8= .Ag [.sc (.int .i64 vk),.sc (.int .i64 vv),.sc (.int .i64 vl),.sc (.int .i64 vc),A4 vt,.A2 6 (Sx.rows vs)]/\S 9=A4 w'/\Gn h e seen H/\AH h H/\H.obj h.next=some (.arr 7 [MM])/\H.obj (h.next+2)=some (.map (Ie seen.reverse))) ⟨sq s2,sq s4,sq s6,sq sV,sq sL,sq sI,sq s8,sq A5,hI,hg,o1,o2⟩ ?_;(try clear zz);clear s2 s4 s6 sV sL sI s8 hI hid hg o1 o2 r0 q0 S H hby;rintro S H ⟨s2,s4,s6,sV,sL,sI,s8,s9,hI,hg,o1,o2⟩;have hid:=hI.decl w';refine DB (λS H=>S 2= .ptr h.next 0 0/\S 4= .ptr (h.next+1) 0 0/\S 6= .mp (h.next+2)/\S 53= .A2 6 (Sx.rows secs)/\S 54= .sc (.int .i64 secs.length)/\S 55= .sc (.int .i64 k)/\S 8= .Ag [.sc (.int .i64 vk),.sc (.int .i64 vv),.sc (.int .i64 vl),.sc (.int .i64 vc),A4 vt,.A2 6 (Sx.rows vs)]/\Gn h e (bif dc then w'::seen else seen) H/\(dc&&sa)=false) ?_ ?_
        ·cases dc with
         |false=>
          refine wt s9 ?_;refine uU s9 (hct _) ?_;replace zz:=Ah s2 s4 s6 sV sL sI s8;refine wt zz ?_;first|exact hI|exact⟨s2,s4,s6,sV,sL,sI,s8,hI,rfl⟩|exact⟨hI,rfl⟩|exact⟨sq s2,sq s4,sq s6,sq sV,sq sL,sq sI,sq s8,hI,rfl⟩
         |true=>
          cases sa with
          |true=>
           simp only[AC]at hP hmf;have hP2:(e,(4:Int))=(d,c):=hP;simp only[C4]at hP2;obtain⟨_,rfl⟩:=hP2;refine wt s9 ?_;refine uU s9 (hct _) ?_;replace zz:=Al s2 s6 s9 o1 o2 hmf;refine wt zz ?_;exact KN (hFE (by decide)) rfl hg
          |false=>
           simp only[AC,AL]at hP hmf;have hmp:=YI (w:=w') (l:=seen.reverse) (by rw[List.any_reverse];exact hsa);refine wt s9 ?_;refine uU s9 (hct _) ?_;replace zz:=Ab s2 s4 s6 s9 sV sL sI s8 o1 o2 hmf hmp;refine wt zz ?_;first|exact hid|exact⟨hid,rfl⟩|exact⟨sq s2,sq s4,sq s6,sq sV,sq sL,sq sI,sq s8,hid,rfl⟩
        ·(try clear zz);clear s2 s4 s6 sV sL sI s8 s9 hI hg o1 o2 hid hmf hct S H;rintro S H ⟨s2,s4,s6,sV,sL,sI,s8,hI,hnn⟩;have hP2:(bif (D1 e w' rest' (.mk vk vv vl vc vt vs)).2==0 then Jg (D1 e w' rest' (.mk vk vv vl vc vt vs)).1 (bif dc then w'::seen else seen) (secs.drop (k+1))else((D1 e w' rest' (.mk vk vv vl vc vt vs)).1,(D1 e w' rest' (.mk vk vv vl vc vt vs)).2))=(d,c):=by
          cases dc with
          |false=>exact hP
          |true=>
           cases sa with
           |false=>exact hP
           |true=>simp at hnn
         clear hP;generalize(bif dc then w'::seen else seen)=seen2 at hI hP2;generalize D1 e w' rest' (.mk vk vv vl vc vt vs)=A at hP2 hse hsk;obtain⟨e2,c2⟩:=A;simp only at hP2 hse hsk;obtain⟨h0,gg,p1,p2,pl,di⟩:=hI;refine wt (uu s4 s8) ?_;refine RN (hse _ di) (by simp only[Ty.w,simprocAttr,s4,s8];try rfl) ?_;rintro r h2 ⟨rfl,di2⟩;clear hse di;have hI2:Gn h e2 seen2 h2:=⟨h0,gg,p1,p2,pl,di2⟩;obtain⟨hg2,o12,_⟩:=hI2.facts;simp only[Ty.w,simprocAttr,Ty.AW];cases hc2:c2==0 with
         |false=>
          have er2:AS c2=Ao c2:=(by simp only[AS,hc2,AL]);rw[hc2]at hP2;simp only[AL,C4]at hP2;obtain⟨_,rfl⟩:=hP2;simp only[er2,Ao];refine wt (uu s2 o12) ?_;exact KN (hFE (by simpa using hc2)) er2 hg2
         |true=>
          have er2:AS c2= .sc .nilIface:=(by simp only[AS,hc2,AC]);rw[hc2]at hP2;simp only[AC]at hP2;simp only[er2];replace zz:=Ah s2 s4 s6 sV sL sI w7;refine wt zz ?_;first
           |exact⟨secs.length-(k+1),by omega,k+1,e2,seen2,rfl,by omega,rfl,hI2,hsk,hP2⟩
           |exact⟨secs.length-(k+1),by omega,sq s2,sq s4,sq s6,sq sV,sq sL,k+1,e2,seen2,sq A5,by omega,rfl,hI2,hsk,hP2⟩
      ·have hd:decide ((k:Int)<(secs.length:Int))=false:=(by simp;omega);rw[List.drop_eq_nil_of_le (by omega)]at hP;simp only[Jg,C4]at hP;obtain⟨rfl,rfl⟩:=hP;rw[AK rfl]at hF;have hW:=λh:A1=>XV hdo.ok hdo.sm (Xh hdo.ok hdo.sm) h;have e0:(GI e&&(CM (Ee e) 0 0).1)=H6 e:=rfl;rw[e0]at hW;clear e0;generalize H6 e=wb at hF hW;generalize Ee e=X at hW;obtain⟨xk,xv,xl,xc,xt,xs⟩:=X;simp only[Hj,Sx.cells,Sx.rows,Ao]at hW;obtain⟨hg,o1,_⟩:=hI.facts;replace zz:=Ak s2 s4 sL sI hd;refine xH 23 zz ?_;refine⟨?_⟩;refine Iq (h.next+1) [(4,.Ag e.cells)] rfl (by obtain⟨h0,gg,p1,p2,pl,di⟩:=hI;have:=di.grow.le;omega) ?_ ?_
       ·intro x hx;simp only[List.mem_cons,List.not_mem_nil,ET]at hx;subst hx;simp only[Ty.w,simprocAttr,s4];exact hI.drop
       refine Cq (λS H=>S 2= .ptr h.next 0 0/\S 4= .Ag e.cells/\h.next<H.next/\AH h H/\H.obj h.next=some (.arr 7 [MM])) ⟨by simp only[Cl,Ty.w,simprocAttr,s2],by simp only[Cl,Ty.w,simprocAttr],by obtain⟨h0,gg,p1,p2,pl,di⟩:=hI;have:=di.grow.le;simp only[Ev];omega,⟨hg.le,λj hj=>by simp only[Ev];rw[AK (by omega)];exact hg.B6 j hj⟩,by simp only[Ev];rw[AK (by omega)];exact o1⟩ ?_;clear s2 s4 s6 sV sL sI hI hg o1 hd hdo hek;rintro S H ⟨s2,s4,hlt2,hg,o1⟩;have hft:=λ(n:Nat)(H:A1)(c:Int)(u:PV)(hc:AS c=u)=>nq (n:=n) (H:=H) (d:=e) (c:=c) hc;obtain⟨dn,dt,dc,dp,df,da,dd⟩:=e;simp only[Dm.cells]at s4 hW hft;have n2:(h.next=H.next)=False:=BB (by omega);cases wb with
       |false=>
        rw[A8 (by simp)]at hF;simp only[BR,AQ]at hW;refine wt s4 ?_;refine uU (uu s2 s4) (hW _) ?_;refine wt (AY s2 o1 n2) ?_;exact KN hF.symm rfl ((hg.new _).set hg.le _)
       |true=>
        rw[AK rfl]at hF;simp only[AO]at hW;subst hF;refine wt s4 ?_;refine uU (uu s2 s4) (hW _) ?_;replace zz:=Aa s2 s4 o1 n2;refine wt zz ?_;exact⟨hft _ _ 0 _ rfl,((hg.new _).set hg.le _).set (AG _) _⟩
set_option maxHeartbeats 4000000
theorem YQ: ∀ {l:List Sx},(J0 l=true↔ ∀ k∈l,IL k=true)
 |[]=>by simp[J0]
 |k::l=>by simp[J0,YQ (l:=l)]
def I3:Nat->ByteArray
 |0=>Dl
 |1=>Dw
 |2=>E1
 |_=>E2
def KO(d:Dm):Nat->List Sx
 |0=>AZ d.types
 |1=>AZ d.constants
 |2=>d.B5.map Cr
 |_=>d.Ay.map Cw
def NG(d:Dm)(k:Nat):Sx:=AE (A7 (I3 k)::KO d k)
def HX(d e:Dm):Nat->Dm
 |0=>{e with types:=d.types}
 |1=>{e with constants:=d.constants}
 |2=>{e with B5:=d.B5}
 |_=>{e with Ay:=d.Ay}
def Gp(d:Dm):List Nat:=[0,1,2,3].filter λk=>!(KO d k).isEmpty
theorem nr: ∀ a<4, ∀ b<4,a≠b->A3 (I3 a) (I3 b)=false:=by decide
theorem nu: ∀ a<4,MF.any (A3 (I3 a))=true:=by decide
theorem nw{d e:Dm}{seen:List ByteArray}{k:Nat}(hd:GI d=true)(hk:k<4)(hs:seen.any (A3 (I3 k))=false)(h2:k=2->e.B5=[])(h3:k=3->e.Ay=[]):
  F6 e seen (NG d k)=(HX d e k,I3 k::seen,0):=by
 unfold NG;rw[mi (nu k hk) hs];unfold GI at hd;simp only[AV]at hd;obtain⟨⟨⟨⟨⟨⟨_,t⟩,c⟩,p⟩,f⟩,_⟩,_⟩:=hd
 match k,hk with
 |0,_=>
  unfold D1;simp only[I3,KO,HX,show A3 Dl FK=false by decide,Fh,AC,AL,Oa t]
 |1,_=>
  unfold D1;simp only[I3,KO,HX,show A3 Dw FK=false by decide,show A3 Dw Dl=false by decide,Fh,AC,AL,Oa c]
 |2,_=>
  unfold D1;simp only[I3,KO,HX,show A3 E1 FK=false by decide,show A3 E1 Dl=false by decide,show A3 E1 Dw=false by decide,Fh,AC,AL,h2 rfl,Xm d.B5 [] p,List.nil_append]
 |3,_=>
  unfold D1;simp only[I3,KO,HX,show A3 E2 FK=false by decide,show A3 E2 Dl=false by decide,show A3 E2 Dw=false by decide,show A3 E2 E1=false by decide,Fh,AC,AL,h3 rfl,Xn d.Ay [] f,List.nil_append]
theorem ny(d e:Dm){k:Nat}(h:k≠2):(HX d e k).B5=e.B5:=by
 match k with
 |0=>rfl
 |1=>rfl
 |2=>exact absurd rfl h
 |k+3=>rfl
theorem o5(d e:Dm){k:Nat}(hk:k<4)(h:k≠3):(HX d e k).Ay=e.Ay:=by
 match k,hk with
 |0,_=>rfl
 |1,_=>rfl
 |2,_=>rfl
 |3,_=>exact absurd rfl h
theorem YS{d:Dm}(hd:GI d=true): ∀ (ks:List Nat)(e:Dm)(seen:List ByteArray),(∀ k∈ks,k<4)->ks.Nodup->(∀ k∈ks,seen.any (A3 (I3 k))=false)->(2∈ks->e.B5=[])->(3∈ks->e.Ay=[])-> ∃ s,Fa e seen (ks.map (NG d))=(ks.foldl (HX d) e,s,0)
 |[],e,seen,_,_,_,_,_=>⟨seen,rfl⟩
 |k::ks,e,seen,hk,hn,hs,h2,h3=>by
  have hk0:=hk k (by simp);have hst:=nw hd hk0 (hs k (by simp)) (λe2=>h2 (by simp[e2])) (λe3=>h3 (by simp[e3]));obtain⟨hn1,hn2⟩:=List.nodup_cons.1 hn;obtain⟨s,h⟩:=YS hd ks (HX d e k) (I3 k::seen) (λj hj=>hk j (by simp[hj])) hn2 (λj hj=>by
    have hne:j≠k:=λe=>hn1 (e ▸ hj);simp only[List.any_cons,nr j (hk j (by simp[hj])) k hk0 hne,hs j (by simp[hj]),Gq])
   (λhm => by
    have hne:k≠2:=λe=>hn1 (e ▸ hm);rw[ny d e hne];exact h2 (by simp[hm]))
   (λhm => by
    have hne:k≠3:=λe=>hn1 (e ▸ hm);rw[o5 d e hk0 hne];exact h3 (by simp[hm]))
  refine⟨s,?_⟩;simp only[List.map_cons,Fa,hst,D8,AC,h,List.foldl_cons]
theorem YT{d:Dm}: ∀ (ks:List Nat)(e:Dm),(∀ k∈ks,k<4)->ks.foldl (HX d) e=⟨e.name,if 0∈ks then d.types else e.types,if 1∈ks then d.constants else e.constants,if 2∈ks then d.B5 else e.B5,if 3∈ks then d.Ay else e.Ay,e.At,e.duratives⟩
 |[],e,_=>by simp
 |k::ks,e,hk=>by
  rw[List.foldl_cons,YT ks _ (λj hj=>hk j (by simp[hj]))];have h0:=hk k (by simp)
  match k,h0 with
  |0,_=>simp[HX]
  |1,_=>simp[HX]
  |2,_=>simp[HX]
  |3,_=>simp[HX]
theorem TD(d:Dm): ∀ k∈Gp d,k<4:=by
 intro k hk;have:=(List.mem_filter.1 hk).1;simp at this;omega
theorem o7(d:Dm):(Gp d).Nodup:=List.Nodup.sublist List.filter_sublist (by decide)
theorem QZ{d:Dm}{k:Nat}(hk:k<4):k ∉ Gp d->(KO d k).isEmpty=true:=by
 intro h;cases q:(KO d k).isEmpty with
 |true=>rfl
 |false=>exact absurd (List.mem_filter.2 ⟨by match k,hk with|0,_=>simp|1,_=>simp|2,_=>simp|3,_=>simp,by rw[q];try rfl⟩) h
def gL(d:Dm):List Sx:=(Gp d).map (NG d)
def aL(d:Dm):List Sx:=d.At.map EM++d.duratives.map EO
theorem Qa(L M:List Sx)(kw:ByteArray)(ks:List Sx):CJ (L++M) kw ks=L++CJ M kw ks:=by
 unfold CJ;cases ks.isEmpty<;>simp
theorem TE(d:Dm):J9 d=A7 Dk::AE [A7 Cv,A7 d.name]::(gL d++aL d):=by
 have e:CJ (CJ (CJ (CJ [] Dl (AZ d.types)) Dw (AZ d.constants)) E1 (d.B5.map Cr)) E2 (d.Ay.map Cw)=gL d:=by
  unfold gL Gp CJ;simp only[NG,List.filter_cons,List.filter_nil,KO,I3];cases(AZ d.types).isEmpty<;>cases(AZ d.constants).isEmpty<;>cases(d.B5.map Cr).isEmpty<;>cases(d.Ay.map Cw).isEmpty<;>rfl
 unfold J9 aL;rw[show[A7 Dk,AE [A7 Cv,A7 d.name]]=[A7 Dk,AE [A7 Cv,A7 d.name]]++[]from rfl,Qa,Qa,Qa,Qa,e];simp only[List.append_assoc,List.cons_append,List.nil_append]
def EB{α:Type}(l:List α)(b:Nat):List α:=l.drop b++l.take b
theorem Qb{α:Type}(l:List α)(b:Nat):(EB l b).Perm l:=by
 unfold EB;have h:= @List.perm_append_comm _ (l.drop b) (l.take b)
 rwa [List.take_append_drop]at h
def NH:ByteArray:=⟨#[58,115,116,114,105,112,115]⟩
def Fq:Sx:=AE [A7 FK,A7 NH,AE []]
def HY(d:Dm)(b:Nat):List Sx:=A7 Dk::AE [A7 Cv,A7 d.name]::Fq::(aL d++(Fq::EB (gL d) b))
theorem YU(e:Dm)(seen:List ByteArray):F6 e seen Fq=(e,seen,0):=by
 unfold Fq;rw[T0 (by decide)];unfold D1;simp only[Fh,AC]
theorem o8{d:Dm}(h:H6 d=true)(b:Nat):Jh (AE (HY d b))=(d,0):=by
 obtain⟨ha,hu⟩:=mj h;unfold H6 at h;rw[AV]at h;have hd:=h.1;have hn:As d.name=true:=by unfold GI at hd;simp only[AV]at hd;exact hd.1.1.1.1.1.1
 have h5:=Xr [] d.At (Fo d.name) (λa h=>me (ha a h).1 (ha a h).2);have h6:=Xt [] d.duratives {Fo d.name with At:=d.At} (λa h=>mf (hu a h).1 (hu a h).2.1 (hu a h).2.2);have e5:(Fo d.name).At++d.At=d.At:=rfl;rw[e5]at h5;have e6:({Fo d.name with At:=d.At}:Dm).duratives++d.duratives=d.duratives:=rfl;rw[e6]at h6;have hp:=Qb (Gp d) b;obtain⟨s,h7⟩:=YS hd (EB (Gp d) b) {Fo d.name with At:=d.At,duratives:=d.duratives} [] (λk hk=>TD d k (hp.mem_iff.1 hk)) (hp.nodup_iff.2 (o7 d)) (λ_ _=>rfl) (λ_=>rfl) (λ_=>rfl);have er:EB (gL d) b=(EB (Gp d) b).map (NG d):=by unfold EB gL;simp only[List.map_append,List.map_drop,List.map_take]
 rw[← er,YT _ _ (λk hk=>TD d k (hp.mem_iff.1 hk))]at h7;have ed:(⟨d.name,if 0∈EB (Gp d) b then d.types else[],if 1∈EB (Gp d) b then d.constants else[],if 2∈EB (Gp d) b then d.B5 else[],if 3∈EB (Gp d) b then d.Ay else[],d.At,d.duratives⟩:Dm)=d:=by
  simp only[hp.mem_iff];have g0:(if 0∈Gp d then d.types else[])=d.types:=by
   split
   ·rfl
   ·rename_i q;exact(Xu (QZ (by omega) q)).symm
  have g1:(if 1∈Gp d then d.constants else[])=d.constants:=by
   split
   ·rfl
   ·rename_i q;exact(Xu (QZ (by omega) q)).symm
  have g2:(if 2∈Gp d then d.B5 else[])=d.B5:=by
   split
   ·rfl
   ·rename_i q;exact(Xv (QZ (by omega) q)).symm
  have g3:(if 3∈Gp d then d.Ay else[])=d.Ay:=by
   split
   ·rfl
   ·rename_i q;exact(Xv (QZ (by omega) q)).symm
  rw[g0,g1,g2,g3]
 have h8:Fa {Fo d.name with At:=d.At,duratives:=d.duratives} [] (EB (gL d) b)=(d,s,0):=by
  rw[h7];exact If (λx=>(x,s,(0:Int))) ed
 unfold HY;unfold Jh;rw[N2];have h2:HQ (AE [A7 Cv,A7 d.name]) Cv=(d.name,0):=kb hn;simp only[Fh,AC,h2,D8,Xo];have h9:Fa (Fo d.name) [] (Fq::(aL d++(Fq::EB (gL d) b)))=(d,s,0):=by
  simp only[Fa,YU,D8,AC];unfold aL;rw[List.append_assoc,Sz _ _ h5,Sz _ _ h6];simp only[Fa,YU,D8,AC];exact h8
 rw[h9]
theorem o9{d:Dm}(h:(CM (Ee d) 0 0).1=true)(hc:(Ee d).nodes<=4000)(b:Nat):(CM (AE (HY d b)) 0 0).1=true:=by
 rw[Je]at h⊢;have ex:Ee d=AE (J9 d):=rfl;rw[ex,TE]at h hc;obtain⟨h1,h2,h3⟩:=h;have hm: ∀ k∈HY d b,k=Fq\/k∈A7 Dk::AE [A7 Cv,A7 d.name]::(gL d++aL d):=by
  intro k hk;unfold HY at hk;simp only[List.mem_cons,List.mem_append]at hk⊢;rcases hk with rfl|rfl|rfl|hk|rfl|hk
  ·exact .inr (.inl rfl)
  ·exact .inr (.inr (.inl rfl))
  ·exact .inl rfl
  ·exact .inr (.inr (.inr (.inr hk)))
  ·exact .inl rfl
  ·exact .inr (.inr (.inr (.inl ((Qb _ b).mem_iff.1 hk))))
 have hsh:IL (AE (HY d b))=true:=by
  have e: ∀ l,IL (AE l)=J0 l:=λl=>by simp[AE,IL,Fh]
  rw[e]at h1⊢;rw[YQ]at h1⊢;intro k hk;rcases hm k hk with rfl|hk
  ·decide
  ·exact h1 k hk
 refine⟨hsh,?_,?_⟩
 ·have e: ∀ l,(AE l).depth=Sx.F8 0 l+1:=λl=>by simp[AE,Sx.depth]
  rw[e]at h2⊢;have hle: ∀ (l:List Sx)(m n:Nat),m<=n->(∀ k∈l,k.depth<=n)->Sx.F8 m l<=n:=by
   intro l
   induction l with
   |nil=>intro m n hmn _;simpa[Sx.F8]using hmn
   |cons a l ih=>
    intro m n hmn hl;simp only[Sx.F8];exact ih _ _ (Nat.max_le.2 ⟨hmn,hl a (by simp)⟩) (λk hk=>hl k (by simp[hk]))
  have:=hle (HY d b) 0 31 (by omega) (λk hk=>by
   rcases hm k hk with rfl|hk
   ·decide
   ·have:=Sx.depths_mem 0 hk;omega)
  omega
 ·have hr:Sx.Aw (EB (gL d) b)=Sx.Aw (gL d):=by
   unfold EB;rw[OE];have:=OE ((gL d).take b) ((gL d).drop b);rw[List.take_append_drop]at this;omega
  have hnd:Fq.nodes=4:=by decide
  rw[My]at hc⊢;unfold HY;simp only[Sx.Aw,OE,hr,hnd]at hc⊢;omega
theorem oA{d:Dm}(h:H6 d=true)(hc:(Ee d).nodes<=4000)(b:Nat):KL (AE (HY d b))=(d,0):=by
 have h2:=h;unfold H6 at h2;simp only[AV]at h2;unfold KL;rw[AK (o9 h2.2 hc b),o8 h];simp only[AO,h]
def Jj:ByteArray:=⟨#[110,111,116]⟩
def TF:Sx:=AE [A7 Dk,AE [A7 Cv,A7 ⟨#[100]⟩],AE [A7 D0,A7 ⟨#[97]⟩,A7 FH,AE [A7 Jj,AE [A7 ⟨#[112]⟩]]]]
def Oi:Dm:=⟨⟨#[100]⟩,[],[],[],[],[⟨⟨#[97]⟩,[],1,Bw,[⟨2,[],Bw,⟨#[112]⟩,[],By⟩]⟩],[]⟩
theorem oB:KL TF=(Oi,0):=by kernel_rfl
theorem oC:SX Oi ⟨#[112]⟩=false:=by decide
theorem YV:TF.ok:=by
 unfold TF;refine LF (by decide) ?_;intro x hx;simp only[List.mem_cons,List.not_mem_nil,ET]at hx;rcases hx with rfl|rfl|rfl
 ·exact D5 (by decide)
 ·refine LF (by decide) ?_;intro x hx;simp only[List.mem_cons,List.not_mem_nil,ET]at hx;rcases hx with rfl|rfl
  ·exact D5 (by decide)
  ·exact D5 (by decide)
 ·refine LF (by decide) ?_;intro x hx;simp only[List.mem_cons,List.not_mem_nil,ET]at hx;rcases hx with rfl|rfl|rfl|rfl
  ·exact D5 (by decide)
  ·exact D5 (by decide)
  ·exact D5 (by decide)
  ·refine LF (by decide) ?_;intro x hx;simp only[List.mem_cons,List.not_mem_nil,ET]at hx;rcases hx with rfl|rfl
   ·exact D5 (by decide)
   ·refine LF (by decide) ?_;intro x hx;simp only[List.mem_cons,List.not_mem_nil,ET]at hx;subst hx;exact D5 (by decide)
theorem Oj:A6 prog 11 [] A1.nil λr h'=>r= .sc (.bool true)/\h'=A1.nil:=by
 have hP:=λh:A1=>YP YV h;have hok:=(nY YV).ok;simp only[oB]at hP hok;have hS:=λh:A1=>jn hok ⟨#[112]⟩ h;rw[oC]at hS
 clear hok;have hw:=λ(s:ByteArray)(h:A1)=>Sf (s:=s) h;simp only[A7,Sx.cells,Sx.rows]at hw;obtain⟨R1,hR1⟩: ∃ R,R=Sx.rows [A7 Cv,A7 ⟨#[100]⟩]:=⟨_,rfl⟩;obtain⟨R2,hR2⟩: ∃ R,R=Sx.rows [A7 ⟨#[112]⟩]:=⟨_,rfl⟩;obtain⟨R3,hR3⟩: ∃ R,R=Sx.rows [A7 Jj,AE [A7 ⟨#[112]⟩]]:=⟨_,rfl⟩;obtain⟨R4,hR4⟩: ∃ R,R=Sx.rows [A7 D0,A7 ⟨#[97]⟩,A7 FH,AE [A7 Jj,AE [A7 ⟨#[112]⟩]]]:=⟨_,rfl⟩;obtain⟨R5,hR5⟩: ∃ R,R=Sx.rows [A7 Dk,AE [A7 Cv,A7 ⟨#[100]⟩],AE [A7 D0,A7 ⟨#[97]⟩,A7 FH,AE [A7 Jj,AE [A7 ⟨#[112]⟩]]]]:=⟨_,rfl⟩;have hl1: ∀ h:A1,A6 prog 27 [.A2 6 [[.sc (.int .i64 1),.sc (.int .i64 0),.sc (.int .i64 0),.sc (.int .i64 0),A4 Cv,.A2 6 []],[.sc (.int .i64 1),.sc (.int .i64 0),.sc (.int .i64 0),.sc (.int .i64 0),A4 ⟨#[100]⟩,.A2 6 []]]] h λr h'=>r= .agg [.sc (.int .i64 3),.sc (.int .i64 0),.sc (.int .i64 0),.sc (.int .i64 0),A4 ⟨#[]⟩,.A2 6 R1]/\h'=h:=λh=>by
  rw[hR1];exact M6 [A7 Cv,A7 ⟨#[100]⟩] h
 have hl2: ∀ h:A1,A6 prog 27 [.A2 6 [[.sc (.int .i64 1),.sc (.int .i64 0),.sc (.int .i64 0),.sc (.int .i64 0),A4 ⟨#[112]⟩,.A2 6 []]]] h λr h'=>r= .agg [.sc (.int .i64 3),.sc (.int .i64 0),.sc (.int .i64 0),.sc (.int .i64 0),A4 ⟨#[]⟩,.A2 6 R2]/\h'=h:=λh=>by
  rw[hR2];exact M6 [A7 ⟨#[112]⟩] h
 have hl3: ∀ h:A1,A6 prog 27 [.A2 6 [[.sc (.int .i64 1),.sc (.int .i64 0),.sc (.int .i64 0),.sc (.int .i64 0),A4 Jj,.A2 6 []],[.sc (.int .i64 3),.sc (.int .i64 0),.sc (.int .i64 0),.sc (.int .i64 0),A4 ⟨#[]⟩,.A2 6 R2]]] h λr h'=>r= .agg [.sc (.int .i64 3),.sc (.int .i64 0),.sc (.int .i64 0),.sc (.int .i64 0),A4 ⟨#[]⟩,.A2 6 R3]/\h'=h:=λh=>by
  rw[hR2,hR3];exact M6 [A7 Jj,AE [A7 ⟨#[112]⟩]] h
 have hl4: ∀ h:A1,A6 prog 27 [.A2 6 [[.sc (.int .i64 1),.sc (.int .i64 0),.sc (.int .i64 0),.sc (.int .i64 0),A4 D0,.A2 6 []],[.sc (.int .i64 1),.sc (.int .i64 0),.sc (.int .i64 0),.sc (.int .i64 0),A4 ⟨#[97]⟩,.A2 6 []],[.sc (.int .i64 1),.sc (.int .i64 0),.sc (.int .i64 0),.sc (.int .i64 0),A4 FH,.A2 6 []],[.sc (.int .i64 3),.sc (.int .i64 0),.sc (.int .i64 0),.sc (.int .i64 0),A4 ⟨#[]⟩,.A2 6 R3]]] h λr h'=>r= .agg [.sc (.int .i64 3),.sc (.int .i64 0),.sc (.int .i64 0),.sc (.int .i64 0),A4 ⟨#[]⟩,.A2 6 R4]/\h'=h:=λh=>by
  rw[hR3,hR4];exact M6 [A7 D0,A7 ⟨#[97]⟩,A7 FH,AE [A7 Jj,AE [A7 ⟨#[112]⟩]]] h
 have hl5: ∀ h:A1,A6 prog 27 [.A2 6 [[.sc (.int .i64 1),.sc (.int .i64 0),.sc (.int .i64 0),.sc (.int .i64 0),A4 Dk,.A2 6 []],[.sc (.int .i64 3),.sc (.int .i64 0),.sc (.int .i64 0),.sc (.int .i64 0),A4 ⟨#[]⟩,.A2 6 R1],[.sc (.int .i64 3),.sc (.int .i64 0),.sc (.int .i64 0),.sc (.int .i64 0),A4 ⟨#[]⟩,.A2 6 R4]]] h λr h'=>r= .agg [.sc (.int .i64 3),.sc (.int .i64 0),.sc (.int .i64 0),.sc (.int .i64 0),A4 ⟨#[]⟩,.A2 6 R5]/\h'=h:=λh=>by
  rw[hR1,hR4,hR5];exact M6 [A7 Dk,AE [A7 Cv,A7 ⟨#[100]⟩],AE [A7 D0,A7 ⟨#[97]⟩,A7 FH,AE [A7 Jj,AE [A7 ⟨#[112]⟩]]]] h
 have hP: ∀ h:A1,A6 prog 22 [.agg [.sc (.int .i64 3),.sc (.int .i64 0),.sc (.int .i64 0),.sc (.int .i64 0),A4 ⟨#[]⟩,.A2 6 R5]] h λr h'=>r= .Am [.agg Oi.cells,.sc .nilIface]/\h'=h:=λh=>by
  rw[hR5];exact hP h
 obtain⟨AR,hAR⟩: ∃ R,R=BP Oi.At:=⟨_,rfl⟩;obtain⟨CR,hCR⟩: ∃ R,R=Ae [⟨2,[],Bw,⟨#[112]⟩,[],By⟩]:=⟨_,rfl⟩;have hA0:AR[0]? =some [A4 ⟨#[97]⟩,.A2 2 [],.sc (.int .i64 1),A4 Bo,A4 ⟨#[]⟩,.A2 1 [],.A2 2 [],.A2 5 [],.A2 6 [],.A2 15 CR]:=by rw[hAR,hCR];try rfl
 have hAl:(AR.length:Int)=1:=by rw[hAR];try rfl
 have hC0:CR[0]? =some [.sc (.int .i64 2),.A2 2 [],A4 Bo,A4 ⟨#[]⟩,.A2 1 [],.A2 2 [],.A2 5 [],.A2 6 [],A4 ⟨#[112]⟩,.A2 1 [],A4 ⟨#[]⟩,A4 ⟨#[]⟩,.sc (.int .i64 0),.A2 1 [],.A2 5 []]:=by rw[hCR];try rfl
 have hCl:(CR.length:Int)=1:=by rw[hCR];try rfl
 have hDc:Oi.cells=[A4 ⟨#[100]⟩,.A2 2 [],.A2 2 [],.A2 2 [],.A2 4 [],.A2 10 AR,.A2 23 []]:=by rw[hAR];try rfl
 simp only[hDc]at hP hS
 clear hR1 hR2 hR3 hR4 hR5 hAR hCR hDc;have q1:((#[100]:Array UInt8).toList==(#[100]:Array UInt8).toList)=true:=by decide
 simp only[Dk,Cv,D0,FH,Jj]at hl1 hl2 hl3 hl4 hl5;have h1:A6 prog 11 [] A1.nil λr _=>r= .sc (.bool true):=by
  refine AF func11 ntmps11 results11 Ty.fQ ?_;refine wt A5 ?_;refine uU A5 (hw Dk _) ?_;repeat'(first|refine cK ?_|(refine nK ?_;try exact zI))
  refine uU A5 (hw Cv _) ?_;repeat'(first|refine cK ?_|(refine nK ?_;try exact zI))
  refine uU A5 (hw ⟨#[100]⟩ _) ?_;repeat'(first|refine cK ?_|(refine nK ?_;try exact zI))
  refine uU A5 (hl1 _) ?_;repeat'(first|refine cK ?_|(refine nK ?_;try exact zI))
  refine uU A5 (hw D0 _) ?_;repeat'(first|refine cK ?_|(refine nK ?_;try exact zI))
  refine uU A5 (hw ⟨#[97]⟩ _) ?_;repeat'(first|refine cK ?_|(refine nK ?_;try exact zI))
  refine uU A5 (hw FH _) ?_;repeat'(first|refine cK ?_|(refine nK ?_;try exact zI))
  refine uU A5 (hw Jj _) ?_;repeat'(first|refine cK ?_|(refine nK ?_;try exact zI))
  refine uU A5 (hw ⟨#[112]⟩ _) ?_;repeat'(first|refine cK ?_|(refine nK ?_;try exact zI))
  refine uU A5 (hl2 _) ?_;repeat'(first|refine cK ?_|(refine nK ?_;try exact zI))
  refine uU A5 (hl3 _) ?_;repeat'(first|refine cK ?_|(refine nK ?_;try exact zI))
  refine uU A5 (hl4 _) ?_;repeat'(first|refine cK ?_|(refine nK ?_;try exact zI))
  refine uU A5 (hl5 _) ?_;repeat'(first|refine cK ?_|(refine nK ?_;try exact zI))
  refine uU A5 (hP _) ?_;replace zz:=Al @B1 hA0 hAl hC0 hCl q1;refine wt zz ?_;refine uU @B1 (hS _) ?_;exact wz (uu @B1 yF)
 refine A6.drop (h1.mono ?_);rintro r h' rfl;refine⟨.sc (.bool true),A1.nil,⟨rfl,rfl⟩,?_,AG _,λid o ho=>by simp[A1.nil]at ho⟩;simp only[AJ]
end Go.Proofs.YtblgchkahpgdjaaGreat
