/- What the claim rests on, part 17: the abstract machine, contracts of the functions, plain data. -/
import Derived.Test.YtblgchkahpgdjaaGreatZm16
set_option linter.unusedVariables false
set_option linter.unusedSimpArgs false
set_option linter.unusedSectionVars false
namespace Go.Proofs.YtblgchkahpgdjaaGreat
open Go.AM Go.Proofs.Tryz
set_option maxHeartbeats 8000000
set_option maxRecDepth 20000
variable {H h h0:A0}{a u c p f t:PV}{x:Sx}{id n:Nat}{d:Dm}{seen:List ByteArray}
abbrev ni:List PV:=[.sc (.string ⟨#[]⟩),.sc (.slice none 0 0),qK 0,.sc (.string ⟨#[]⟩),.sc (.string ⟨#[]⟩),.sc (.slice none 0 0),.sc (.slice none 0 0),.sc (.slice none 0 0),.sc (.slice none 0 0),.sc (.string ⟨#[]⟩),.sc (.string ⟨#[]⟩),.sc (.slice none 0 0),.sc (.slice none 0 0),.sc (.slice none 0 0),.sc (.slice none 0 0),.sc (.string ⟨#[]⟩),.sc (.string ⟨#[]⟩),.sc (.slice none 0 0),.sc (.slice none 0 0),.sc (.slice none 0 0),.sc (.slice none 0 0),.sc (.slice none 0 0),.sc (.slice none 0 0)]
structure HE(h:A0)(a:Du)(H:A0):Prop where
 grow:AH h H
 lt:h.next+1<H.next
 TX:H.obj h.next=some (.arr 23 [ni])
 ex: ∃ P C0 C1 gop gna gar gpa gex gki kop kna kar kpa kex kki lop lna lar lpa lex lki,a.start= .mk gop gna gar gpa gex gki/\a.over= .mk kop kna kar kpa kex kki/\a.stop= .mk lop lna lar lpa lex lki/\H.obj (h.next+1)=some (.arr 23 [[A3 a.name,P,qK a.Dw,A3 gop,A3 gna,.A1 1 (AL gar),.A1 2 (A8 gpa),.A1 5 (Ex.rows gex),.A1 6 (Fm.rows gki),A3 kop,A3 kna,.A1 1 (AL kar),.A1 2 (A8 kpa),.A1 5 (Ex.rows kex),.A1 6 (Fm.rows kki),A3 lop,A3 lna,.A1 1 (AL lar),.A1 2 (A8 lpa),.A1 5 (Ex.rows lex),.A1 6 (Fm.rows lki),C0,C1]])/\BZ 2 (A8 a.params) P/\BZ 15 (Ag a.Bm) C0/\BZ 15 (Ag a.Bn) C1
theorem HE.tmp{a:Du}(i:HE h a H)(o o':Am):HE h a (HQ H o o'):=by
 obtain⟨g,lt,o1,P,C0,C1,gop,gna,gar,gpa,gex,gki,kop,kna,kar,kpa,kex,kki,lop,lna,lar,lpa,lex,lki,e0,e1,e2,eo,eP,eC0,eC1⟩:=i;exact⟨g.tmp o o',by rw[IQ];omega,by rw[IR (by omega)];exact o1,P,C0,C1,gop,gna,gar,gpa,gex,gki,kop,kna,kar,kpa,kex,kki,lop,lna,lar,lpa,lex,lki,e0,e1,e2,by rw[IR (by omega)];exact eo,eP,eC0,eC1⟩
theorem HE.upd{a a':Du}(i:HE h a H){P C0 C1:PV}{gop gna:ByteArray}{gar:List ByteArray}{gpa:List Pm}{gex:List Ex}{gki:List Fm}{kop kna:ByteArray}{kar:List ByteArray}{kpa:List Pm}{kex:List Ex}{kki:List Fm}{lop lna:ByteArray}{lar:List ByteArray}{lpa:List Pm}{lex:List Ex}{lki:List Fm}(e0:a'.start= .mk gop gna gar gpa gex gki)(e1:a'.over= .mk kop kna kar kpa kex kki)(e2:a'.stop= .mk lop lna lar lpa lex lki)(eP:BZ 2 (A8 a'.params) P)(eC0:BZ 15 (Ag a'.Bm) C0)(eC1:BZ 15 (Ag a'.Bn) C1):
  HE h a' (H.set (h.next+1) (.arr 23 [[A3 a'.name,P,qK a'.Dw,A3 gop,A3 gna,.A1 1 (AL gar),.A1 2 (A8 gpa),.A1 5 (Ex.rows gex),.A1 6 (Fm.rows gki),A3 kop,A3 kna,.A1 1 (AL kar),.A1 2 (A8 kpa),.A1 5 (Ex.rows kex),.A1 6 (Fm.rows kki),A3 lop,A3 lna,.A1 1 (AL lar),.A1 2 (A8 lpa),.A1 5 (Ex.rows lex),.A1 6 (Fm.rows lki),C0,C1]])):=by
 obtain⟨g,lt,o1,_⟩:=i;exact⟨g.set (by omega) _,lt,(Aw (by omega)).trans o1,P,C0,C1,gop,gna,gar,gpa,gex,gki,kop,kna,kar,kpa,kex,kki,lop,lna,lar,lpa,lex,lki,e0,e1,e2,D7,eP,eC0,eC1⟩
theorem HE.fin{X:Am}{a:Du}{F:Du × Int}{c:Int}(hF:F=(a,c))(hu:AQ c=u)(g:AH h H){P C0 C1:PV}{gop gna:ByteArray}{gar:List ByteArray}{gpa:List Pm}{gex:List Ex}{gki:List Fm}{kop kna:ByteArray}{kar:List ByteArray}{kpa:List Pm}{kex:List Ex}{kki:List Fm}{lop lna:ByteArray}{lar:List ByteArray}{lpa:List Pm}{lex:List Ex}{lki:List Fm}(e0:a.start= .mk gop gna gar gpa gex gki)(e1:a.over= .mk kop kna kar kpa kex kki)(e2:a.stop= .mk lop lna lar lpa lex lki)(eP:BZ 2 (A8 a.params) P)(eC0:BZ 15 (Ag a.Bm) C0)(eC1:BZ 15 (Ag a.Bn) C1):
  AI h.next (H.set h.next X) (.Al [.agg (DG F.1),AQ F.2]) (.Al [.agg [A3 a.name,P,qK a.Dw,A3 gop,A3 gna,.A1 1 (AL gar),.A1 2 (A8 gpa),.A1 5 (Ex.rows gex),.A1 6 (Fm.rows gki),A3 kop,A3 kna,.A1 1 (AL kar),.A1 2 (A8 kpa),.A1 5 (Ex.rows kex),.A1 6 (Fm.rows kki),A3 lop,A3 lna,.A1 1 (AL lar),.A1 2 (A8 lpa),.A1 5 (Ex.rows lex),.A1 6 (Fm.rows lki),C0,C1],u])/\AH h (H.set h.next X):=by
 subst hF;subst hu;refine⟨?_,g.set (AG _) _⟩;obtain⟨u,hu⟩:=Dv c;rw[hu];obtain⟨an,ap,ac,astart,aover,astop,aatStart,aatStop⟩:=a;simp only at e0 e1 e2 eP eC0 eC1;subst e0;subst e1;subst e2;skip;simp only[DG,Fm.cells,List.cons_append,List.nil_append];have hP:=eP.CD (n:=h.next) (H.set h.next X) (C6 _ _);have hC0:=eC0.CD (n:=h.next) (H.set h.next X) (Gp _ _);have hC1:=eC1.CD (n:=h.next) (H.set h.next X) (Gp _ _);unfold AI;refine⟨_,rfl,?_⟩;unfold AN;refine⟨?_,by simp only[AN,AI,KV]⟩;unfold AI;refine⟨_,rfl,?_⟩;unfold AN;refine⟨Bi,?_⟩;unfold AN;refine⟨hP,?_⟩;unfold AN;refine⟨Bi,?_⟩;unfold AN;refine⟨Bi,?_⟩;unfold AN;refine⟨Bi,?_⟩;unfold AN;refine⟨B8 (Df _ _),?_⟩;unfold AN;refine⟨B8 (C6 _ _),?_⟩;unfold AN;refine⟨B8 (EE _ _),?_⟩;unfold AN;refine⟨B8 (El _ _),?_⟩;unfold AN;refine⟨Bi,?_⟩;unfold AN;refine⟨Bi,?_⟩;unfold AN;refine⟨B8 (Df _ _),?_⟩;unfold AN;refine⟨B8 (C6 _ _),?_⟩;unfold AN;refine⟨B8 (EE _ _),?_⟩;unfold AN;refine⟨B8 (El _ _),?_⟩;unfold AN;refine⟨Bi,?_⟩;unfold AN;refine⟨Bi,?_⟩;unfold AN;refine⟨B8 (Df _ _),?_⟩;unfold AN;refine⟨B8 (C6 _ _),?_⟩;unfold AN;refine⟨B8 (EE _ _),?_⟩;unfold AN;refine⟨B8 (El _ _),?_⟩;unfold AN;refine⟨hC0,?_⟩;unfold AN;refine⟨hC1,?_⟩;simp only[AN]
def TA(lc:Int)(r:Du × Int):Du × Int:=bif r.2==0 then(r.1,lc)else r
theorem nj(a:Du)(kw:ByteArray)(v:Sx)(l:List (ByteArray × Sx)):Gs a ((kw,v)::l)=bif (D2 a kw v).2==0 then Gs (D2 a kw v).1 l else D2 a kw v:=rfl
theorem nq(hok:x.ok)(hsm:x.small)(h:A0):A6 prog 122 [.agg x.cells] h λr h'=>r= .Al [.agg (DG (HB x).1),AQ (HB x).2]/\h'=h:=by
 refine A6.CD Ty.Uu ?_;have hH:=λh:A0=>YB hok h;have hlen:= @YF x;generalize hF:HB x=F;unfold HB at hF;generalize Dt x=HD at hF hH hlen;obtain⟨na,hc⟩:=HD;simp only at hF hH hlen;obtain⟨kind,value,line,col,text,kids⟩:=x;simp only[BS]at hF hlen;simp only[Sx.cells]at hH⊢;simp only[Sx.ok]at hok;simp only[Sx.small]at hsm;have hko:=Sx.Bs.1 hok.2.2.2.2;have hkm:=Sx.Es.1 hsm.2;have hkl:=hsm.1;have hrl:=Sx.B3 kids
 clear hok hsm;have hal:=λh:A0=>LC (h:=h);simp only[Bu,Fm.cells]at hal;generalize hR:Sx.rows kids=R at hH hrl⊢;refine AD func122 ntmps122 results122 Ty.Uu ?_;refine wt A4 ?_;refine uU A4 (hal _) ?_;refine wt A4 ?_;refine uU A4 (hal _) ?_;refine wt A4 ?_;refine uU A4 (hal _) ?_;refine xG 2 @B4 ?_;refine⟨?_⟩;refine Cf (λS H=>S 1= .Aj [qK kind,qK value,qK line,qK col,A3 text,.A1 6 R]/\S 2= .ptr h.next 0 0/\S 4= .ptr (h.next+1) 0 0/\HE h (DZ ⟨#[]⟩) H) ?_ ?_
 ·refine ⟨sq A4,sq A4,sq A4,(((AH.refl h).new _).new _).set (by omega) _,by simp only[A0.set,A0.new];omega,?_,_,_,_,_,_,_,_,_,_,_,_,_,_,_,_,_,_,_,_,_,_,rfl,rfl,rfl,D7,.inr ⟨rfl,rfl⟩,.inr ⟨rfl,rfl⟩,.inr ⟨rfl,rfl⟩⟩;rw[Aw (by omega),E4 (by simp only[A0.new];omega)];simp only[A0.new,AO]
 clear hal;rintro S H ⟨s1,s2,s4,hI⟩;have hS:=λ{P C0 C1:PV}{gop gna:ByteArray}{gar:List ByteArray}{gpa:List Pm}{gex:List Ex}{gki:List Fm}{kop kna:ByteArray}{kar:List ByteArray}{kpa:List Pm}{kex:List Ex}{kki:List Fm}{lop lna:ByteArray}{lar:List ByteArray}{lpa:List Pm}{lex:List Ex}{lki:List Fm}(e0:(DZ na).start= .mk gop gna gar gpa gex gki)(e1:(DZ na).over= .mk kop kna kar kpa kex kki)(e2:(DZ na).stop= .mk lop lna lar lpa lex lki)(eP:BZ 2 (A8 (DZ na).params) P)(eC0:BZ 15 (Ag (DZ na).Bm) C0)(eC1:BZ 15 (Ag (DZ na).Bn) C1)=>hI.upd (a':=DZ na) e0 e1 e2 eP eC0 eC1;obtain⟨g,lt,o1,P,C0,C1,gop,gna,gar,gpa,gex,gki,kop,kna,kar,kpa,kex,kki,lop,lna,lar,lpa,lex,lki,e0,e1,e2,eo,eP,eC0,eC1⟩:=hI;have hS:=hS (by exact e0) (by exact e1) (by exact e2) eP eC0 eC1;simp only[DZ]at eo;have cP:=eP.cell;have cC0:=eC0.cell;have cC1:=eC1.cell;have n1:(h.next=h.next+1)=False:=BB (by omega);cases hcc:hc==0 with
 |false=>
  have er:AQ hc=An hc:=by simp only[AQ,hcc,AJ]
  rw[hcc]at hF;simp only[AJ]at hF;rw[er]at hH;simp only[An]at hH;refine wt (AU s1 s2 s4) ?_;replace zz:=AW s1 s2 s4 eo;refine uU zz (hH _) ?_;replace zz:=BJ s2 s4 eo o1 n1 cP cC0 cC1;refine wt zz ?_;exact HE.fin (a:=DZ na) hF.symm er (g.set (by omega) _) (by exact e0) (by exact e1) (by exact e2) eP eC0 eC1
 |true=>
  have er:AQ hc= .sc .nilIface:=by simp only[AQ,hcc,AB]
  rw[hcc]at hF;simp only[AB]at hF;rw[er]at hH;obtain⟨ka,kn,rest,rfl⟩:=hlen hcc;simp only[List.drop_succ_cons,List.drop_zero]at hF;have hpt:=λh:A0=>YE (l:=rest) (kws:=Fj) (by simp only[List.length_cons]at hkl;omega) (by decide) h;have hpm:=T7 rest Fj;have hpl:=T8 rest Fj;have q2:(2:Int)<=(R.length:Int):=by rw[hrl];simp only[List.length_cons];omega
  have ht:List.take ((R.length:Int)-2).toNat (List.drop 2 R)=Sx.rows rest:=by
   rw[← hR];simp only[Sx.rows,List.drop_succ_cons,List.drop_zero,List.length_cons];rw[List.take_of_length_le (by omega)]
  generalize CL rest Fj=PS at hF hpt hpm hpl;obtain⟨ps,lc⟩:=PS;simp only at hF hpt hpm hpl;change TA lc (Gs (DZ na) ps)=F at hF;obtain⟨lu,hlu⟩:=Dv lc;rw[hlu]at hpt;have hpl2:ps.length<=1048576:=by simp only[List.length_cons]at hkl;omega
  have hrlN:(AL (ps.map (·.1))).length=ps.length:=by rw[GI,List.length_map]
  have hrlV:(Sx.rows (ps.map (·.2))).length=ps.length:=by rw[Sx.B3,List.length_map]
  have hvo: ∀ kv∈ps,kv.2.ok/\kv.2.small:=λkv hkv=>⟨hko _ (by simp[hpm kv hkv]),hkm _ (by simp[hpm kv hkv])⟩
  clear hpm hpl hko hkm hkl hR hrl hlen;refine wt (AU s1 s2 s4) ?_;replace zz:=AW s1 s2 s4 eo;refine uU zz (hH _) ?_;replace zz:=BJ s1 s2 s4 eo q2 ht @CW @CX;refine wt zz ?_;replace zz:=Ae s1 s2 s4 q2 ht;refine uU zz (hpt _) ?_;refine xG 7 (AU s1 s2 s4) ?_;refine⟨?_⟩;refine Cf (λS H=>S 2= .ptr h.next 0 0/\S 4= .ptr (h.next+1) 0 0/\S 6= .A1 1 (AL (ps.map (·.1)))/\S 7= .A1 6 (Sx.rows (ps.map (·.2)))/\S 8= .sc lu/\HE h (DZ na) H) ⟨sq s2,sq s4,sq A4,sq A4,sq A4,hS⟩ ?_
  clear s1 s2 s4 hS hH hpt ht q2;rintro S H ⟨s2,s4,s6,s7,s8,hI⟩;refine wt (uu s7 hrlV) ?_;refine By (λm S H=>S 2= .ptr h.next 0 0/\S 4= .ptr (h.next+1) 0 0/\S 6= .A1 1 (AL (ps.map (·.1)))/\S 34= .A1 6 (Sx.rows (ps.map (·.2)))/\S 8= .sc lu/\S 35= qK ps.length/\ ∃ (k:Nat)(a:Du),S 36= qK k/\k<=ps.length/\m=ps.length-k/\HE h a H/\F=TA lc (Gs a (ps.drop k))) ps.length ?_ ?_
  ·simp only[Ty.w,simprocAttr,s2,s4,s6,s8];exact⟨0,_,rfl,Bj _,rfl,hI,by rw[List.drop_zero];exact hF.symm⟩
  try clear zz
  clear s2 s4 s6 s7 s8 hI hF S H;rintro m S H ⟨s2,s4,s6,sV,s8,sL,k,a,sI,hk,rfl,hI,hF⟩;by_cases hlt:k<ps.length
  ·have hd:decide ((k:Int)<(ps.length:Int))=true:=(by simp;omega);have w7:IntKind.i64.wrap ((k:Int)+1)=((k+1:Nat):Int):=(by rw[BM (by omega) (by omega)];omega);obtain⟨⟨kw,v⟩,hx⟩: ∃ x,ps[k]? =some x:=⟨_,List.getElem?_eq_getElem hlt⟩;have hrk:(AL (ps.map (·.1)))[k]? =some [A3 kw]:=K3 (by rw[List.getElem?_map,hx];try rfl);have hrv:(Sx.rows (ps.map (·.2)))[k]? =some v.cells:=Sx.CG (by rw[List.getElem?_map,hx];try rfl);obtain⟨hvok,hvsm⟩:=hvo _ (List.mem_of_getElem? hx);simp only at hvok hvsm;rw[Ca hx,nj]at hF;clear hx;obtain⟨vk,vv,vl,vc,vt,vs⟩:=v;simp only[Sx.cells]at hrv;replace zz:=BF s2 s4 s6 s8 sV sL sI hd hrv;refine xH 10 zz ?_;refine⟨?_⟩;refine H7 10 rfl (sq A4) (λn H=>FZ n H (.mk vk vv vl vc vt vs)) ?_;refine Cf (λS H=>S 2= .ptr h.next 0 0/\S 4= .ptr (h.next+1) 0 0/\S 6= .A1 1 (AL (ps.map (·.1)))/\S 34= .A1 6 (Sx.rows (ps.map (·.2)))/\S 8= .sc lu/\S 35= qK ps.length/\S 36= qK k/\S 9= qK k/\S 10= .Aj [qK vk,qK vv,qK vl,qK vc,A3 vt,.A1 6 (Sx.rows vs)]/\HE h a H) ⟨sq s2,sq s4,sq s6,sq sV,sq s8,sq sL,sq sI,sq A4,by simp only[Ty.w,simprocAttr,Sx.cells],hI.tmp _ _⟩ ?_;clear s2 s4 s6 s8 sV sL sI hd hrv hI;rintro S H ⟨s2,s4,s6,sV,s8,sL,sI,s9,s10,hI⟩;refine D0 (λS H=>S 2= .ptr h.next 0 0/\S 4= .ptr (h.next+1) 0 0/\S 6= .A1 1 (AL (ps.map (·.1)))/\S 34= .A1 6 (Sx.rows (ps.map (·.2)))/\S 8= .sc lu/\S 35= qK ps.length/\S 36= qK k/\S 5=AQ (D2 a kw (.mk vk vv vl vc vt vs)).2/\HE h (D2 a kw (.mk vk vv vl vc vt vs)).1 H) ?_ ?_
   ·clear hF hvo;have b0:(0:Int)<=(k:Int):=(by omega);have T1:(k:Int).toNat=k:=MT k;have bl:((k:Int)<(ps.length:Int))=True:=Di (by omega);cases q0:(kw.data.toList==(#[58,112,97,114,97,109,101,116,101,114,115]:Array UInt8).toList)with
    |true=>
     have e:D2 a kw (.mk vk vv vl vc vt vs)=({a with params:=(GP (.mk vk vv vl vc vt vs)).1},(GP (.mk vk vv vl vc vt vs)).2):=(by unfold D2;simp only[show A2 kw Cc=true from q0,AB,AJ]);rw[e];have hc1:=λh:A0=>YA (x:=(.mk vk vv vl vc vt vs)) hvok hvsm h;generalize GP (.mk vk vv vl vc vt vs)=L at hc1;obtain⟨l,c⟩:=L;obtain⟨u,hu⟩:=Dv c;simp only[Sx.cells,hu]at hc1⊢;have hS:=λ{P C0 C1:PV}{gop gna:ByteArray}{gar:List ByteArray}{gpa:List Pm}{gex:List Ex}{gki:List Fm}{kop kna:ByteArray}{kar:List ByteArray}{kpa:List Pm}{kex:List Ex}{kki:List Fm}{lop lna:ByteArray}{lar:List ByteArray}{lpa:List Pm}{lex:List Ex}{lki:List Fm}(e0:({a with params:=l}).start= .mk gop gna gar gpa gex gki)(e1:({a with params:=l}).over= .mk kop kna kar kpa kex kki)(e2:({a with params:=l}).stop= .mk lop lna lar lpa lex lki)(eP:BZ 2 (A8 ({a with params:=l}).params) P)(eC0:BZ 15 (Ag ({a with params:=l}).Bm) C0)(eC1:BZ 15 (Ag ({a with params:=l}).Bn) C1)=>hI.upd (a':={a with params:=l}) e0 e1 e2 eP eC0 eC1;obtain⟨g,lt,o1,P,C0,C1,gop,gna,gar,gpa,gex,gki,kop,kna,kar,kpa,kex,kki,lop,lna,lar,lpa,lex,lki,e0,e1,e2,eo,eP,eC0,eC1⟩:=hI;have hS:=hS (by exact e0) (by exact e1) (by exact e2) (.inl rfl) eC0 eC1;(repeat'(first|refine cK ?_|(refine nK ?_;try exact zI)|refine Ai λK hK=>?_|(refine Ck ?_)|((first|refine Bp ?_|refine FW (λK hK=>?_));simp only[Ty.w,simprocAttr,s2,s4,s6,s9,s10,hrk,b0,T1,bl,hrlN,q0])|(refine hK _ _ ?_;clear hK;(try simp only[At,simprocAttr]))));replace zz:=Ad s2 s4 s6 s8 s9 s10 eo;refine uU zz (hc1 _) ?_;replace zz:=BJ s2 s4 s6 s8 sV sL sI eo;(repeat'(first|refine cK ?_|refine nK ?_|(refine uN hK ?_;clear hK)|apply zI));exact⟨sq s2,sq s4,sq s6,sq sV,sq s8,sq sL,sq sI,sq A4,hS⟩
    |false=>
     cases q1:(kw.data.toList==(#[58,100,117,114,97,116,105,111,110]:Array UInt8).toList)with
     |true=>
      have e:D2 a kw (.mk vk vv vl vc vt vs)=({a with Dw:=(FT (.mk vk vv vl vc vt vs)).1},(FT (.mk vk vv vl vc vt vs)).2):=(by unfold D2;simp only[show A2 kw Cc=false from q0,show A2 kw E6=true from q1,AB,AJ]);rw[e];have hc1:=λh:A0=>Y8 (x:=(.mk vk vv vl vc vt vs)) h;generalize FT (.mk vk vv vl vc vt vs)=L at hc1;obtain⟨n,c⟩:=L;obtain⟨u,hu⟩:=Dv c;simp only[Sx.cells,hu]at hc1⊢;have hS:=λ{P C0 C1:PV}{gop gna:ByteArray}{gar:List ByteArray}{gpa:List Pm}{gex:List Ex}{gki:List Fm}{kop kna:ByteArray}{kar:List ByteArray}{kpa:List Pm}{kex:List Ex}{kki:List Fm}{lop lna:ByteArray}{lar:List ByteArray}{lpa:List Pm}{lex:List Ex}{lki:List Fm}(e0:({a with Dw:=n}).start= .mk gop gna gar gpa gex gki)(e1:({a with Dw:=n}).over= .mk kop kna kar kpa kex kki)(e2:({a with Dw:=n}).stop= .mk lop lna lar lpa lex lki)(eP:BZ 2 (A8 ({a with Dw:=n}).params) P)(eC0:BZ 15 (Ag ({a with Dw:=n}).Bm) C0)(eC1:BZ 15 (Ag ({a with Dw:=n}).Bn) C1)=>hI.upd (a':={a with Dw:=n}) e0 e1 e2 eP eC0 eC1;obtain⟨g,lt,o1,P,C0,C1,gop,gna,gar,gpa,gex,gki,kop,kna,kar,kpa,kex,kki,lop,lna,lar,lpa,lex,lki,e0,e1,e2,eo,eP,eC0,eC1⟩:=hI;have hS:=hS (by exact e0) (by exact e1) (by exact e2) eP eC0 eC1;(repeat'(first|refine cK ?_|(refine nK ?_;try exact zI)|refine Ai λK hK=>?_|(refine Ck ?_)|((first|refine Bp ?_|refine FW (λK hK=>?_));simp only[Ty.w,simprocAttr,s2,s4,s6,s9,s10,hrk,b0,T1,bl,hrlN,q0,q1])|(refine hK _ _ ?_;clear hK;(try simp only[At,simprocAttr]))));replace zz:=Ad s2 s4 s6 s8 s9 s10 eo;refine uU zz (hc1 _) ?_;replace zz:=BJ s2 s4 s6 s8 sV sL sI eo;(repeat'(first|refine cK ?_|refine nK ?_|(refine uN hK ?_;clear hK)|apply zI));exact⟨sq s2,sq s4,sq s6,sq sV,sq s8,sq sL,sq sI,sq A4,hS⟩
     |false=>
      cases q2:(kw.data.toList==(#[58,115,116,97,114,116]:Array UInt8).toList)with
      |true=>
       have e:D2 a kw (.mk vk vv vl vc vt vs)=({a with start:=(Cl (.mk vk vv vl vc vt vs)).1},(Cl (.mk vk vv vl vc vt vs)).2):=(by unfold D2;simp only[show A2 kw Cc=false from q0,show A2 kw E6=false from q1,show A2 kw Ez=true from q2,AB,AJ]);rw[e];have hc1:=λh:A0=>OR (x:=(.mk vk vv vl vc vt vs)) hvok h;generalize Cl (.mk vk vv vl vc vt vs)=L at hc1;obtain⟨⟨fop,fna,far,fpa,fex,fki⟩,c⟩:=L;obtain⟨u,hu⟩:=Dv c;simp only[Sx.cells,Fm.cells,hu]at hc1⊢;have hS:=λ{P C0 C1:PV}{gop gna:ByteArray}{gar:List ByteArray}{gpa:List Pm}{gex:List Ex}{gki:List Fm}{kop kna:ByteArray}{kar:List ByteArray}{kpa:List Pm}{kex:List Ex}{kki:List Fm}{lop lna:ByteArray}{lar:List ByteArray}{lpa:List Pm}{lex:List Ex}{lki:List Fm}(e0:({a with start:=Fm.mk fop fna far fpa fex fki}).start= .mk gop gna gar gpa gex gki)(e1:({a with start:=Fm.mk fop fna far fpa fex fki}).over= .mk kop kna kar kpa kex kki)(e2:({a with start:=Fm.mk fop fna far fpa fex fki}).stop= .mk lop lna lar lpa lex lki)(eP:BZ 2 (A8 ({a with start:=Fm.mk fop fna far fpa fex fki}).params) P)(eC0:BZ 15 (Ag ({a with start:=Fm.mk fop fna far fpa fex fki}).Bm) C0)(eC1:BZ 15 (Ag ({a with start:=Fm.mk fop fna far fpa fex fki}).Bn) C1)=>hI.upd (a':={a with start:=Fm.mk fop fna far fpa fex fki}) e0 e1 e2 eP eC0 eC1;obtain⟨g,lt,o1,P,C0,C1,gop,gna,gar,gpa,gex,gki,kop,kna,kar,kpa,kex,kki,lop,lna,lar,lpa,lex,lki,e0,e1,e2,eo,eP,eC0,eC1⟩:=hI;have hS:=hS rfl (by exact e1) (by exact e2) eP eC0 eC1;(repeat'(first|refine cK ?_|(refine nK ?_;try exact zI)|refine Ai λK hK=>?_|(refine Ck ?_)|((first|refine Bp ?_|refine FW (λK hK=>?_));simp only[Ty.w,simprocAttr,s2,s4,s6,s9,s10,hrk,b0,T1,bl,hrlN,q0,q1,q2])|(refine hK _ _ ?_;clear hK;(try simp only[At,simprocAttr]))));replace zz:=Ad s2 s4 s6 s8 s9 s10 eo;refine uU zz (hc1 _) ?_;replace zz:=BJ s2 s4 s6 s8 sV sL sI eo;(repeat'(first|refine cK ?_|refine nK ?_|(refine uN hK ?_;clear hK)|apply zI));exact⟨sq s2,sq s4,sq s6,sq sV,sq s8,sq sL,sq sI,sq A4,hS⟩
      |false=>
       cases q3:(kw.data.toList==(#[58,111,118,101,114]:Array UInt8).toList)with
       |true=>
        have e:D2 a kw (.mk vk vv vl vc vt vs)=({a with over:=(Cl (.mk vk vv vl vc vt vs)).1},(Cl (.mk vk vv vl vc vt vs)).2):=(by unfold D2;simp only[show A2 kw Cc=false from q0,show A2 kw E6=false from q1,show A2 kw Ez=false from q2,show A2 kw FE=true from q3,AB,AJ]);rw[e];have hc1:=λh:A0=>OR (x:=(.mk vk vv vl vc vt vs)) hvok h;generalize Cl (.mk vk vv vl vc vt vs)=L at hc1;obtain⟨⟨fop,fna,far,fpa,fex,fki⟩,c⟩:=L;obtain⟨u,hu⟩:=Dv c;simp only[Sx.cells,Fm.cells,hu]at hc1⊢;have hS:=λ{P C0 C1:PV}{gop gna:ByteArray}{gar:List ByteArray}{gpa:List Pm}{gex:List Ex}{gki:List Fm}{kop kna:ByteArray}{kar:List ByteArray}{kpa:List Pm}{kex:List Ex}{kki:List Fm}{lop lna:ByteArray}{lar:List ByteArray}{lpa:List Pm}{lex:List Ex}{lki:List Fm}(e0:({a with over:=Fm.mk fop fna far fpa fex fki}).start= .mk gop gna gar gpa gex gki)(e1:({a with over:=Fm.mk fop fna far fpa fex fki}).over= .mk kop kna kar kpa kex kki)(e2:({a with over:=Fm.mk fop fna far fpa fex fki}).stop= .mk lop lna lar lpa lex lki)(eP:BZ 2 (A8 ({a with over:=Fm.mk fop fna far fpa fex fki}).params) P)(eC0:BZ 15 (Ag ({a with over:=Fm.mk fop fna far fpa fex fki}).Bm) C0)(eC1:BZ 15 (Ag ({a with over:=Fm.mk fop fna far fpa fex fki}).Bn) C1)=>hI.upd (a':={a with over:=Fm.mk fop fna far fpa fex fki}) e0 e1 e2 eP eC0 eC1;obtain⟨g,lt,o1,P,C0,C1,gop,gna,gar,gpa,gex,gki,kop,kna,kar,kpa,kex,kki,lop,lna,lar,lpa,lex,lki,e0,e1,e2,eo,eP,eC0,eC1⟩:=hI;have hS:=hS (by exact e0) rfl (by exact e2) eP eC0 eC1;(repeat'(first|refine cK ?_|(refine nK ?_;try exact zI)|refine Ai λK hK=>?_|(refine Ck ?_)|((first|refine Bp ?_|refine FW (λK hK=>?_));simp only[Ty.w,simprocAttr,s2,s4,s6,s9,s10,hrk,b0,T1,bl,hrlN,q0,q1,q2,q3])|(refine hK _ _ ?_;clear hK;(try simp only[At,simprocAttr]))));replace zz:=Ad s2 s4 s6 s8 s9 s10 eo;refine uU zz (hc1 _) ?_;replace zz:=BJ s2 s4 s6 s8 sV sL sI eo;(repeat'(first|refine cK ?_|refine nK ?_|(refine uN hK ?_;clear hK)|apply zI));exact⟨sq s2,sq s4,sq s6,sq sV,sq s8,sq sL,sq sI,sq A4,hS⟩
       |false=>
        cases q4:(kw.data.toList==(#[58,101,110,100]:Array UInt8).toList)with
        |true=>
         have e:D2 a kw (.mk vk vv vl vc vt vs)=({a with stop:=(Cl (.mk vk vv vl vc vt vs)).1},(Cl (.mk vk vv vl vc vt vs)).2):=(by unfold D2;simp only[show A2 kw Cc=false from q0,show A2 kw E6=false from q1,show A2 kw Ez=false from q2,show A2 kw FE=false from q3,show A2 kw FO=true from q4,AB,AJ]);rw[e];have hc1:=λh:A0=>OR (x:=(.mk vk vv vl vc vt vs)) hvok h;generalize Cl (.mk vk vv vl vc vt vs)=L at hc1;obtain⟨⟨fop,fna,far,fpa,fex,fki⟩,c⟩:=L;obtain⟨u,hu⟩:=Dv c;simp only[Sx.cells,Fm.cells,hu]at hc1⊢;have hS:=λ{P C0 C1:PV}{gop gna:ByteArray}{gar:List ByteArray}{gpa:List Pm}{gex:List Ex}{gki:List Fm}{kop kna:ByteArray}{kar:List ByteArray}{kpa:List Pm}{kex:List Ex}{kki:List Fm}{lop lna:ByteArray}{lar:List ByteArray}{lpa:List Pm}{lex:List Ex}{lki:List Fm}(e0:({a with stop:=Fm.mk fop fna far fpa fex fki}).start= .mk gop gna gar gpa gex gki)(e1:({a with stop:=Fm.mk fop fna far fpa fex fki}).over= .mk kop kna kar kpa kex kki)(e2:({a with stop:=Fm.mk fop fna far fpa fex fki}).stop= .mk lop lna lar lpa lex lki)(eP:BZ 2 (A8 ({a with stop:=Fm.mk fop fna far fpa fex fki}).params) P)(eC0:BZ 15 (Ag ({a with stop:=Fm.mk fop fna far fpa fex fki}).Bm) C0)(eC1:BZ 15 (Ag ({a with stop:=Fm.mk fop fna far fpa fex fki}).Bn) C1)=>hI.upd (a':={a with stop:=Fm.mk fop fna far fpa fex fki}) e0 e1 e2 eP eC0 eC1;obtain⟨g,lt,o1,P,C0,C1,gop,gna,gar,gpa,gex,gki,kop,kna,kar,kpa,kex,kki,lop,lna,lar,lpa,lex,lki,e0,e1,e2,eo,eP,eC0,eC1⟩:=hI;have hS:=hS (by exact e0) (by exact e1) rfl eP eC0 eC1;(repeat'(first|refine cK ?_|(refine nK ?_;try exact zI)|refine Ai λK hK=>?_|(refine Ck ?_)|((first|refine Bp ?_|refine FW (λK hK=>?_));simp only[Ty.w,simprocAttr,s2,s4,s6,s9,s10,hrk,b0,T1,bl,hrlN,q0,q1,q2,q3,q4])|(refine hK _ _ ?_;clear hK;(try simp only[At,simprocAttr]))));replace zz:=Ad s2 s4 s6 s8 s9 s10 eo;refine uU zz (hc1 _) ?_;replace zz:=BJ s2 s4 s6 s8 sV sL sI eo;(repeat'(first|refine cK ?_|refine nK ?_|(refine uN hK ?_;clear hK)|apply zI));exact⟨sq s2,sq s4,sq s6,sq sV,sq s8,sq sL,sq sI,sq A4,hS⟩
        |false=>
         cases q5:(kw.data.toList==(#[58,97,116,45,115,116,97,114,116]:Array UInt8).toList)with
         |true=>
          have e:D2 a kw (.mk vk vv vl vc vt vs)=({a with Bm:=(En (.mk vk vv vl vc vt vs)).1},(En (.mk vk vv vl vc vt vs)).2):=(by unfold D2;simp only[show A2 kw Cc=false from q0,show A2 kw E6=false from q1,show A2 kw Ez=false from q2,show A2 kw FE=false from q3,show A2 kw FO=false from q4,show A2 kw Fg=true from q5,AB,AJ]);rw[e];have hc1:=λh:A0=>Sw (x:=(.mk vk vv vl vc vt vs)) hvok h;generalize En (.mk vk vv vl vc vt vs)=L at hc1;obtain⟨l,c⟩:=L;obtain⟨u,hu⟩:=Dv c;simp only[Sx.cells,hu]at hc1⊢;have hS:=λ{P C0 C1:PV}{gop gna:ByteArray}{gar:List ByteArray}{gpa:List Pm}{gex:List Ex}{gki:List Fm}{kop kna:ByteArray}{kar:List ByteArray}{kpa:List Pm}{kex:List Ex}{kki:List Fm}{lop lna:ByteArray}{lar:List ByteArray}{lpa:List Pm}{lex:List Ex}{lki:List Fm}(e0:({a with Bm:=l}).start= .mk gop gna gar gpa gex gki)(e1:({a with Bm:=l}).over= .mk kop kna kar kpa kex kki)(e2:({a with Bm:=l}).stop= .mk lop lna lar lpa lex lki)(eP:BZ 2 (A8 ({a with Bm:=l}).params) P)(eC0:BZ 15 (Ag ({a with Bm:=l}).Bm) C0)(eC1:BZ 15 (Ag ({a with Bm:=l}).Bn) C1)=>hI.upd (a':={a with Bm:=l}) e0 e1 e2 eP eC0 eC1;obtain⟨g,lt,o1,P,C0,C1,gop,gna,gar,gpa,gex,gki,kop,kna,kar,kpa,kex,kki,lop,lna,lar,lpa,lex,lki,e0,e1,e2,eo,eP,eC0,eC1⟩:=hI;have hS:=hS (by exact e0) (by exact e1) (by exact e2) eP (.inl rfl) eC1;(repeat'(first|refine cK ?_|(refine nK ?_;try exact zI)|refine Ai λK hK=>?_|(refine Ck ?_)|((first|refine Bp ?_|refine FW (λK hK=>?_));simp only[Ty.w,simprocAttr,s2,s4,s6,s9,s10,hrk,b0,T1,bl,hrlN,q0,q1,q2,q3,q4,q5])|(refine hK _ _ ?_;clear hK;(try simp only[At,simprocAttr]))));replace zz:=Ad s2 s4 s6 s8 s9 s10 eo;refine uU zz (hc1 _) ?_;replace zz:=BJ s2 s4 s6 s8 sV sL sI eo;(repeat'(first|refine cK ?_|refine nK ?_|(refine uN hK ?_;clear hK)|apply zI));exact⟨sq s2,sq s4,sq s6,sq sV,sq s8,sq sL,sq sI,sq A4,hS⟩
         |false=>
          have e:D2 a kw (.mk vk vv vl vc vt vs)=({a with Bn:=(En (.mk vk vv vl vc vt vs)).1},(En (.mk vk vv vl vc vt vs)).2):=(by unfold D2;simp only[show A2 kw Cc=false from q0,show A2 kw E6=false from q1,show A2 kw Ez=false from q2,show A2 kw FE=false from q3,show A2 kw FO=false from q4,show A2 kw Fg=false from q5,AB,AJ]);rw[e];have hc1:=λh:A0=>Sw (x:=(.mk vk vv vl vc vt vs)) hvok h;generalize En (.mk vk vv vl vc vt vs)=L at hc1;obtain⟨l,c⟩:=L;obtain⟨u,hu⟩:=Dv c;simp only[Sx.cells,hu]at hc1⊢;have hS:=λ{P C0 C1:PV}{gop gna:ByteArray}{gar:List ByteArray}{gpa:List Pm}{gex:List Ex}{gki:List Fm}{kop kna:ByteArray}{kar:List ByteArray}{kpa:List Pm}{kex:List Ex}{kki:List Fm}{lop lna:ByteArray}{lar:List ByteArray}{lpa:List Pm}{lex:List Ex}{lki:List Fm}(e0:({a with Bn:=l}).start= .mk gop gna gar gpa gex gki)(e1:({a with Bn:=l}).over= .mk kop kna kar kpa kex kki)(e2:({a with Bn:=l}).stop= .mk lop lna lar lpa lex lki)(eP:BZ 2 (A8 ({a with Bn:=l}).params) P)(eC0:BZ 15 (Ag ({a with Bn:=l}).Bm) C0)(eC1:BZ 15 (Ag ({a with Bn:=l}).Bn) C1)=>hI.upd (a':={a with Bn:=l}) e0 e1 e2 eP eC0 eC1;obtain⟨g,lt,o1,P,C0,C1,gop,gna,gar,gpa,gex,gki,kop,kna,kar,kpa,kex,kki,lop,lna,lar,lpa,lex,lki,e0,e1,e2,eo,eP,eC0,eC1⟩:=hI;have hS:=hS (by exact e0) (by exact e1) (by exact e2) eP eC0 (.inl rfl);(repeat'(first|refine cK ?_|(refine nK ?_;try exact zI)|refine Ai λK hK=>?_|(refine Ck ?_)|((first|refine Bp ?_|refine FW (λK hK=>?_));simp only[Ty.w,simprocAttr,s2,s4,s6,s9,s10,hrk,b0,T1,bl,hrlN,q0,q1,q2,q3,q4,q5])|(refine hK _ _ ?_;clear hK;(try simp only[At,simprocAttr]))));replace zz:=Ad s2 s4 s6 s8 s9 s10 eo;refine uU zz (hc1 _) ?_;replace zz:=BJ s2 s4 s6 s8 sV sL sI eo;(repeat'(first|refine cK ?_|refine nK ?_|(refine uN hK ?_;clear hK)|apply zI));exact⟨sq s2,sq s4,sq s6,sq sV,sq s8,sq sL,sq sI,sq A4,hS⟩
   ·generalize D2 a kw (.mk vk vv vl vc vt vs)=A at hF;obtain⟨a',c⟩:=A;simp only at hF;(try clear zz);clear s2 s4 s6 sV s8 sL sI s9 s10 hI hrk hvok hvsm S H;rintro S H ⟨s2,s4,s6,sV,s8,sL,sI,s5,hI⟩;simp only at s5 hI;cases hcc2:c==0 with
    |false=>
     have er:AQ c=An c:=(by simp only[AQ,hcc2,AJ]);rw[hcc2]at hF;simp only[AJ]at hF;have hF2:F=(a',c):=(by rw[hF];unfold TA;simp only[hcc2,AJ]);rw[er]at s5;simp only[An]at s5;obtain⟨g,lt,o1,P,C0,C1,gop,gna,gar,gpa,gex,gki,kop,kna,kar,kpa,kex,kki,lop,lna,lar,lpa,lex,lki,e0,e1,e2,eo,eP,eC0,eC1⟩:=hI;have cP:=eP.cell;have cC0:=eC0.cell;have cC1:=eC1.cell;have n1:(h.next=h.next+1)=False:=BB (by omega);replace zz:=BF s2 s4 s5 eo o1 n1 cP cC0 cC1;refine wt zz ?_;exact HE.fin hF2 er g (by exact e0) (by exact e1) (by exact e2) eP eC0 eC1
    |true=>
     have er:AQ c= .sc .nilIface:=(by simp only[AQ,hcc2,AB]);rw[hcc2]at hF;simp only[AB]at hF;rw[er]at s5;replace zz:=BF s2 s4 s5 s6 s8 sV sL sI w7;refine wt zz ?_;exact⟨ps.length-(k+1),by omega,k+1,a',rfl,by omega,rfl,hI,hF⟩
  ·have hd:decide ((k:Int)<(ps.length:Int))=false:=(by simp;omega);rw[List.drop_eq_nil_of_le (by omega)]at hF;have hF2:F=(a,lc):=(by rw[hF];try rfl);obtain⟨g,lt,o1,P,C0,C1,gop,gna,gar,gpa,gex,gki,kop,kna,kar,kpa,kex,kki,lop,lna,lar,lpa,lex,lki,e0,e1,e2,eo,eP,eC0,eC1⟩:=hI;have cP:=eP.cell;have cC0:=eC0.cell;have cC1:=eC1.cell;have n1:(h.next=h.next+1)=False:=BB (by omega);replace zz:=AY s2 s4 s8 sL sI hd eo o1 n1 cP cC0 cC1;refine wt zz ?_;exact HE.fin hF2 hlu g (by exact e0) (by exact e1) (by exact e2) eP eC0 eC1
structure Fw(h0:A0)(id:Nat)(h:A0):Prop where
 le:h0.next<=h.next
 B1: ∀ j,j<h0.next->j≠id->h.obj j=h0.obj j
theorem Fw.set(g:Fw h0 id h)(o:Am):Fw h0 id (h.set id o):=⟨g.le,λj hj hne=>(Aw hne).trans (g.B1 j hj hne)⟩
theorem Fw.new(g:Fw h0 id h)(o:Am):Fw h0 id (h.new o):=⟨by simp only[A0.new];have:=g.le;omega,λj hj hne=>(E4 (by have:=g.le;omega)).trans (g.B1 j hj hne)⟩
theorem Fw.tmp(g:Fw h0 id h)(o o':Am):Fw h0 id (HQ h o o'):=⟨by rw[IQ];have:=g.le;omega,λj hj hne=>(IR (by have:=g.le;omega)).trans (g.B1 j hj hne)⟩
structure DV(h0:A0)(id:Nat)(d:Dm)(h:A0):Prop where
 grow:Fw h0 id h
 Bt:id<h0.next/\id<h.next
 ex: ∃ t c p f a u,h.obj id=some (.arr 7 [[A3 d.name,t,c,p,f,a,u]])/\BZ 2 (A8 d.types) t/\BZ 2 (A8 d.constants) c/\
  Tl h h0.next 2 p (Bd d.Ay)/\Tl h h0.next 4 f (BY d.Au)/\Tl h h0.next 10 a (BV d.Av)/\Tl h h0.next 23 u (BW d.B0)
theorem DV.tmp(i:DV h0 id d h)(o o':Am):DV h0 id d (HQ h o o'):=by
 obtain⟨g,l,t,c,p,f,a,u,e0,e1,e2,e3,e4,e5,e6⟩:=i;exact⟨g.tmp o o',⟨l.1,by rw[IQ];omega⟩,t,c,p,f,a,u,by rw[IR l.2];exact e0,e1,e2,e3.tmp o o',e4.tmp o o',e5.tmp o o',e6.tmp o o'⟩
theorem DV.types{t:PV}{l:List Pm}(g:Fw h0 id h)(Bt:id<h0.next/\id<h.next)(e2:BZ 2 (A8 d.constants) c)(e3:Tl h h0.next 2 p (Bd d.Ay))(e4:Tl h h0.next 4 f (BY d.Au))(e5:Tl h h0.next 10 a (BV d.Av))(e6:Tl h h0.next 23 u (BW d.B0)):
  DV h0 id {d with types:=l} (h.set id (.arr 7 [[A3 d.name,.A1 2 (A8 l),c,p,f,a,u]])):=
 ⟨g.set _,⟨Bt.1,Bt.2⟩,.A1 2 (A8 l),c,p,f,a,u,D7,.inl rfl,e2,e3.EK Bt.1 _,e4.EK Bt.1 _,e5.EK Bt.1 _,e6.EK Bt.1 _⟩
theorem DV.consts{c:PV}{l:List Pm}(g:Fw h0 id h)(Bt:id<h0.next/\id<h.next)(e1:BZ 2 (A8 d.types) t)(e3:Tl h h0.next 2 p (Bd d.Ay))(e4:Tl h h0.next 4 f (BY d.Au))(e5:Tl h h0.next 10 a (BV d.Av))(e6:Tl h h0.next 23 u (BW d.B0)):
  DV h0 id {d with constants:=l} (h.set id (.arr 7 [[A3 d.name,t,.A1 2 (A8 l),p,f,a,u]])):=
 ⟨g.set _,⟨Bt.1,Bt.2⟩,t,.A1 2 (A8 l),p,f,a,u,D7,e1,.inl rfl,e3.EK Bt.1 _,e4.EK Bt.1 _,e5.EK Bt.1 _,e6.EK Bt.1 _⟩
theorem nr(l:List Pr)(a:Pr):Bd l++[E0 a]=Bd (l++[a]):=by simp[Bd]
theorem DV.qG(x:Pr)(g:Fw h0 id h)(Bt:id<h0.next/\id<h.next)(e0:h.obj id=some (.arr 7 [[A3 d.name,t,c,p,f,a,u]]))(e1:BZ 2 (A8 d.types) t)(e2:BZ 2 (A8 d.constants) c)(e3:Tl h h0.next 2 p (Bd d.Ay))(e4:Tl h h0.next 4 f (BY d.Au))(e5:Tl h h0.next 10 a (BV d.Av))(e6:Tl h h0.next 23 u (BW d.B0)):
  ∃ H,F3 h p=some (H,Bd d.Ay)/\Dx h 2 p=true/\H.next=h.next/\H.obj id=some (.arr 7 [[A3 d.name,t,c,p,f,a,u]])/\
   DV h0 id {d with Ay:=d.Ay++[x]} ((H.new (.arr 2 (Bd (d.Ay++[x])))).set id (.arr 7 [[A3 d.name,t,c,.own h.next 0 (d.Ay.length+1),f,a,u]])):=by
 obtain⟨H,t1,t2,t3,t4,t5⟩:=e3.tail;have hle:=g.le;have hk:Fw h0 id H:=⟨by omega,λj hj hne=>(t4 j hj).trans (g.B1 j hj hne)⟩;refine⟨H,t1,t2,t3,(t4 _ Bt.1).trans e0,(hk.new _).set _,⟨Bt.1,by simp only[A0.set,A0.new];omega⟩,t,c,.own h.next 0 (d.Ay.length+1),f,a,u,D7,e1,e2,?_,?_,?_,?_⟩
 ·rw [← t3];exact(Tl.grow (id0:=h0.next) (H:=H) (z:=2) (len:=d.Ay.length+1) (rows:=Bd (d.Ay++[x])) (by omega) (by simp[Mm])).EK Bt.1 _
 ·exact (((Tl.He e3 e4 (by decide) t1 t3).up (h':=H.new (.arr 2 (Bd (d.Ay++[x])))) (by simp only[A0.new];omega) λj _ hj=>E4 hj)).EK Bt.1 _
 ·exact (((Tl.He e3 e5 (by decide) t1 t3).up (h':=H.new (.arr 2 (Bd (d.Ay++[x])))) (by simp only[A0.new];omega) λj _ hj=>E4 hj)).EK Bt.1 _
 ·exact (((Tl.He e3 e6 (by decide) t1 t3).up (h':=H.new (.arr 2 (Bd (d.Ay++[x])))) (by simp only[A0.new];omega) λj _ hj=>E4 hj)).EK Bt.1 _
theorem nu(l:List Fu)(a:Fu):BY l++[E1 a]=BY (l++[a]):=by simp[BY]
theorem DV.qH(x:Fu)(g:Fw h0 id h)(Bt:id<h0.next/\id<h.next)(e0:h.obj id=some (.arr 7 [[A3 d.name,t,c,p,f,a,u]]))(e1:BZ 2 (A8 d.types) t)(e2:BZ 2 (A8 d.constants) c)(e3:Tl h h0.next 2 p (Bd d.Ay))(e4:Tl h h0.next 4 f (BY d.Au))(e5:Tl h h0.next 10 a (BV d.Av))(e6:Tl h h0.next 23 u (BW d.B0)):
  ∃ H,F3 h f=some (H,BY d.Au)/\Dx h 4 f=true/\H.next=h.next/\H.obj id=some (.arr 7 [[A3 d.name,t,c,p,f,a,u]])/\
   DV h0 id {d with Au:=d.Au++[x]} ((H.new (.arr 4 (BY (d.Au++[x])))).set id (.arr 7 [[A3 d.name,t,c,p,.own h.next 0 (d.Au.length+1),a,u]])):=by
 obtain⟨H,t1,t2,t3,t4,t5⟩:=e4.tail;have hle:=g.le;have hk:Fw h0 id H:=⟨by omega,λj hj hne=>(t4 j hj).trans (g.B1 j hj hne)⟩;refine⟨H,t1,t2,t3,(t4 _ Bt.1).trans e0,(hk.new _).set _,⟨Bt.1,by simp only[A0.set,A0.new];omega⟩,t,c,p,.own h.next 0 (d.Au.length+1),a,u,D7,e1,e2,?_,?_,?_,?_⟩
 ·exact (((Tl.He e4 e3 (by decide) t1 t3).up (h':=H.new (.arr 4 (BY (d.Au++[x])))) (by simp only[A0.new];omega) λj _ hj=>E4 hj)).EK Bt.1 _
 ·rw [← t3];exact(Tl.grow (id0:=h0.next) (H:=H) (z:=4) (len:=d.Au.length+1) (rows:=BY (d.Au++[x])) (by omega) (by simp[Mn])).EK Bt.1 _
 ·exact (((Tl.He e4 e5 (by decide) t1 t3).up (h':=H.new (.arr 4 (BY (d.Au++[x])))) (by simp only[A0.new];omega) λj _ hj=>E4 hj)).EK Bt.1 _
 ·exact (((Tl.He e4 e6 (by decide) t1 t3).up (h':=H.new (.arr 4 (BY (d.Au++[x])))) (by simp only[A0.new];omega) λj _ hj=>E4 hj)).EK Bt.1 _
theorem nw(l:List Ac)(a:Ac):BV l++[DF a]=BV (l++[a]):=by simp[BV]
theorem DV.qI(x:Ac)(g:Fw h0 id h)(Bt:id<h0.next/\id<h.next)(e0:h.obj id=some (.arr 7 [[A3 d.name,t,c,p,f,a,u]]))(e1:BZ 2 (A8 d.types) t)(e2:BZ 2 (A8 d.constants) c)(e3:Tl h h0.next 2 p (Bd d.Ay))(e4:Tl h h0.next 4 f (BY d.Au))(e5:Tl h h0.next 10 a (BV d.Av))(e6:Tl h h0.next 23 u (BW d.B0)):
  ∃ H,F3 h a=some (H,BV d.Av)/\Dx h 10 a=true/\H.next=h.next/\H.obj id=some (.arr 7 [[A3 d.name,t,c,p,f,a,u]])/\
   DV h0 id {d with Av:=d.Av++[x]} ((H.new (.arr 10 (BV (d.Av++[x])))).set id (.arr 7 [[A3 d.name,t,c,p,f,.own h.next 0 (d.Av.length+1),u]])):=by
 obtain⟨H,t1,t2,t3,t4,t5⟩:=e5.tail;have hle:=g.le;have hk:Fw h0 id H:=⟨by omega,λj hj hne=>(t4 j hj).trans (g.B1 j hj hne)⟩;refine⟨H,t1,t2,t3,(t4 _ Bt.1).trans e0,(hk.new _).set _,⟨Bt.1,by simp only[A0.set,A0.new];omega⟩,t,c,p,f,.own h.next 0 (d.Av.length+1),u,D7,e1,e2,?_,?_,?_,?_⟩
 ·exact (((Tl.He e5 e3 (by decide) t1 t3).up (h':=H.new (.arr 10 (BV (d.Av++[x])))) (by simp only[A0.new];omega) λj _ hj=>E4 hj)).EK Bt.1 _
 ·exact (((Tl.He e5 e4 (by decide) t1 t3).up (h':=H.new (.arr 10 (BV (d.Av++[x])))) (by simp only[A0.new];omega) λj _ hj=>E4 hj)).EK Bt.1 _
 ·rw [← t3];exact(Tl.grow (id0:=h0.next) (H:=H) (z:=10) (len:=d.Av.length+1) (rows:=BV (d.Av++[x])) (by omega) (by simp[Ln])).EK Bt.1 _
 ·exact (((Tl.He e5 e6 (by decide) t1 t3).up (h':=H.new (.arr 10 (BV (d.Av++[x])))) (by simp only[A0.new];omega) λj _ hj=>E4 hj)).EK Bt.1 _
theorem ny(l:List Du)(a:Du):BW l++[DG a]=BW (l++[a]):=by simp[BW]
theorem DV.qJ(x:Du)(g:Fw h0 id h)(Bt:id<h0.next/\id<h.next)(e0:h.obj id=some (.arr 7 [[A3 d.name,t,c,p,f,a,u]]))(e1:BZ 2 (A8 d.types) t)(e2:BZ 2 (A8 d.constants) c)(e3:Tl h h0.next 2 p (Bd d.Ay))(e4:Tl h h0.next 4 f (BY d.Au))(e5:Tl h h0.next 10 a (BV d.Av))(e6:Tl h h0.next 23 u (BW d.B0)):
  ∃ H,F3 h u=some (H,BW d.B0)/\Dx h 23 u=true/\H.next=h.next/\H.obj id=some (.arr 7 [[A3 d.name,t,c,p,f,a,u]])/\
   DV h0 id {d with B0:=d.B0++[x]} ((H.new (.arr 23 (BW (d.B0++[x])))).set id (.arr 7 [[A3 d.name,t,c,p,f,a,.own h.next 0 (d.B0.length+1)]])):=by
 obtain⟨H,t1,t2,t3,t4,t5⟩:=e6.tail;have hle:=g.le;have hk:Fw h0 id H:=⟨by omega,λj hj hne=>(t4 j hj).trans (g.B1 j hj hne)⟩;refine⟨H,t1,t2,t3,(t4 _ Bt.1).trans e0,(hk.new _).set _,⟨Bt.1,by simp only[A0.set,A0.new];omega⟩,t,c,p,f,a,.own h.next 0 (d.B0.length+1),D7,e1,e2,?_,?_,?_,?_⟩
 ·exact (((Tl.He e6 e3 (by decide) t1 t3).up (h':=H.new (.arr 23 (BW (d.B0++[x])))) (by simp only[A0.new];omega) λj _ hj=>E4 hj)).EK Bt.1 _
 ·exact (((Tl.He e6 e4 (by decide) t1 t3).up (h':=H.new (.arr 23 (BW (d.B0++[x])))) (by simp only[A0.new];omega) λj _ hj=>E4 hj)).EK Bt.1 _
 ·exact (((Tl.He e6 e5 (by decide) t1 t3).up (h':=H.new (.arr 23 (BW (d.B0++[x])))) (by simp only[A0.new];omega) λj _ hj=>E4 hj)).EK Bt.1 _
 ·rw [← t3];exact(Tl.grow (id0:=h0.next) (H:=H) (z:=23) (len:=d.B0.length+1) (rows:=BW (d.B0++[x])) (by omega) (by simp[Lo])).EK Bt.1 _
theorem o5(hsm:x.small){w:ByteArray}{l:List Sx}(h:Br x=some (w,l)): ∀ y∈l,y.small:=by
 obtain⟨kind,value,line,col,text,kids⟩:=x;obtain⟨y,rfl,_,_⟩:=NC h;simp only[Sx.small]at hsm;have:=Sx.Es.1 hsm.2;exact λz hz=>this z (by simp[hz])
theorem o7{w:ByteArray}{rest:List Sx}(hD:Br x=some (w,rest))(hok:x.ok)(hsm:x.small)(hb1:d.Ay.length<=1099511627776)(hb2:d.Au.length<=1099511627776)(hb3:d.Av.length<=4294967296)(hb4:d.B0.length<=4294967296)(h:A0)(hI:DV h0 id d h):
  A6 prog 61 [.ptr id 0 0,.agg x.cells] h λr h'=>r=AQ (D9 d w rest x).2/\DV h0 id (D9 d w rest x).1 h':=by
 obtain⟨_,hl,hlo⟩:=LH hok hsm hD;have hls:=o5 hsm hD;have hxo:=hok;have hxs:=hsm;obtain⟨kind,value,line,col,text,kids⟩:=x;obtain⟨yk,yv,yl,yc,ys,hkd,r0,q0,q1',ht,hws,hrl⟩:=NI hok hD;have hll:=Sx.B3 rest;simp only[Sx.cells];generalize hR:Sx.rows kids=R at r0 q0 q1' ht hrl
 clear hD hok hsm hkd;cases qa:(w.data.toList==(#[58,114,101,113,117,105,114,101,109,101,110,116,115]:Array UInt8).toList)with
 |true=>
  have e:D9 d w rest (.mk kind value line col text kids)=(d,0):=by unfold D9;simp only[show A2 w Gq=true from qa,AB,AJ]
  rw[e]
  clear e;refine AD func61 ntmps61 results61 Ty.Kq ?_;replace zz:=BJ r0 q0 qa q1' ht hll @CW @CX;refine wt zz ?_;first|exact hI|exact⟨rfl,hI⟩
 |false=>
  cases qb:(w.data.toList==(#[58,116,121,112,101,115]:Array UInt8).toList)with
  |true=>
   have e:D9 d w rest (.mk kind value line col text kids)=({d with types:=(C5 false rest).1},(C5 false rest).2):=(by unfold D9;simp only[show A2 w Gq=false from qa,show A2 w Ds=true from qb,AB,AJ]);rw[e];clear e;have hp:=λh:A0=>M7 (vars:=false) hl hlo h;generalize C5 false rest=L at hp⊢;obtain⟨l,cc⟩:=L;obtain⟨cu,hu⟩:=Dv cc;simp only[hu]at hp⊢;obtain⟨g,Bt,t,c,p,f,a,u,e0,e1,e2,e3,e4,e5,e6⟩:=hI;refine AD func61 ntmps61 results61 Ty.Kq ?_;replace zz:=BF r0 q0 qa qb q1' ht hll @CW @CX;refine wt zz ?_;refine uU (uu r0 q0) (hp _) ?_;replace zz:=Ad r0 q0 r0 q0 qa qb e0;refine wt zz ?_;first|exact DV.types (d:=d) (t:=t) (c:=c) (l:=l) g Bt e2 e3 e4 e5 e6|exact⟨rfl,DV.types (d:=d) (t:=t) (c:=c) (l:=l) g Bt e2 e3 e4 e5 e6⟩
  |false=>
   cases qc:(w.data.toList==(#[58,99,111,110,115,116,97,110,116,115]:Array UInt8).toList)with
   |true=>
    have e:D9 d w rest (.mk kind value line col text kids)=({d with constants:=(C5 false rest).1},(C5 false rest).2):=(by unfold D9;simp only[show A2 w Gq=false from qa,show A2 w Ds=false from qb,show A2 w E7=true from qc,AB,AJ]);rw[e];clear e;have hp:=λh:A0=>M7 (vars:=false) hl hlo h;generalize C5 false rest=L at hp⊢;obtain⟨l,cc⟩:=L;obtain⟨cu,hu⟩:=Dv cc;simp only[hu]at hp⊢;obtain⟨g,Bt,t,c,p,f,a,u,e0,e1,e2,e3,e4,e5,e6⟩:=hI;refine AD func61 ntmps61 results61 Ty.Kq ?_;replace zz:=B6 r0 q0 qa qb qc q1' ht hll @CW @CX;refine wt zz ?_;refine uU (uu r0 q0) (hp _) ?_;replace zz:=BJ r0 q0 r0 q0 qa qb qc e0;refine wt zz ?_;first|exact DV.consts (d:=d) (t:=t) (c:=c) (l:=l) g Bt e1 e3 e4 e5 e6|exact⟨rfl,DV.consts (d:=d) (t:=t) (c:=c) (l:=l) g Bt e1 e3 e4 e5 e6⟩
   |false=>
    cases qd:(w.data.toList==(#[58,112,114,101,100,105,99,97,116,101,115]:Array UInt8).toList)with
    |true=>
     have e:D9 d w rest (.mk kind value line col text kids)=({d with Ay:=(Gf d.Ay rest).1},(Gf d.Ay rest).2):=(by unfold D9;simp only[show A2 w Gq=false from qa,show A2 w Ds=false from qb,show A2 w E7=false from qc,show A2 w EF=true from qd,AB,AJ]);rw[e];clear e;generalize hE:Gf d.Ay rest=E;refine AD func61 ntmps61 results61 Ty.Kq ?_;replace zz:=DX r0 q0 qa qb qc qd q1' ht hll @CW @CX;refine wt zz ?_;refine By (λm S H=>S 0= .ptr id 0 0/\S 55= .A1 6 (Sx.rows rest)/\S 56= qK rest.length/\ ∃ (k:Nat)(L:List Pr),S 57= qK k/\k<=rest.length/\m=rest.length-k/\L.length<=d.Ay.length+k/\DV h0 id {d with Ay:=L} H/\E=Gf L (rest.drop k)) rest.length ?_ ?_
     ·simp only[Ty.w,simprocAttr];exact⟨0,d.Ay,rfl,Bj _,rfl,AG _,hI,by rw[List.drop_zero];exact hE.symm⟩
     clear hI hE;rintro m S H ⟨s0,sV,sN,k,L,sI,hk,rfl,hL,hI,hE⟩;by_cases hlt:k<rest.length
     ·have hd:decide ((k:Int)<(rest.length:Int))=true:=(by simp;omega);have w7:IntKind.i64.wrap ((k:Int)+1)=((k+1:Nat):Int):=(by rw[BM (by omega) (by omega)];omega);obtain⟨y,hx⟩: ∃ y,rest[k]? =some y:=⟨_,List.getElem?_eq_getElem hlt⟩;have hr:=Sx.CG hx;have hmem:=List.mem_of_getElem? hx;have hc:=λh:A0=>nS (hlo y hmem) (hls y hmem) h;rw[Ca hx]at hE;simp only[Gf]at hE;generalize HX y=A at hE hc;obtain⟨x0,cc⟩:=A;simp only at hE hc;clear hx hmem;obtain⟨vk,vv,vl,vc,vt,vs⟩:=y;simp only[Sx.cells]at hr hc;obtain⟨cu,hu⟩:=Dv cc;have hap:=nr L x0;replace zz:=Ah s0 sV sN sI hd hr;refine xG 16 zz ?_;refine⟨?_⟩;refine H7 9 rfl (sq A4) (λn H=>FZ n H (.mk vk vv vl vc vt vs)) ?_;refine Cf (λS H=>S 0= .ptr id 0 0/\S 55= .A1 6 (Sx.rows rest)/\S 56= qK rest.length/\S 57= qK k/\S 9= .Aj [qK vk,qK vv,qK vl,qK vc,A3 vt,.A1 6 (Sx.rows vs)]/\DV h0 id {d with Ay:=L} H) ⟨sq s0,sq sV,sq sN,sq sI,by simp only[Ty.w,simprocAttr,Sx.cells],hI.tmp _ _⟩ ?_;clear s0 sV sN sI hI hr hd;rintro S H ⟨s0,sV,sN,sI,s9,hI⟩;obtain⟨pn,pp⟩:=x0;simp only[E0]at hc hap;cases hcc:cc==0 with
      |false=>
       have e0':AQ cc=An cc:=(by simp only[AQ,hcc,AJ]);rw[hcc]at hE;simp only[AJ]at hE;rw[e0']at hc;simp only[An]at hc;refine wt s9 ?_;replace zz:=Ae s0 sV sN sI s9;refine uU zz (hc _) ?_;refine xH 17 (uu s0 @B4) ?_;refine⟨?_⟩;refine H7 10 rfl (sq A4) (λn H=>by simp only[AN];exact⟨Bi,B8 (C6 n _),trivial⟩) ?_;have hI2:=hI.tmp (.arr 2 [[.sc (.string ⟨#[]⟩),.sc (.slice none 0 0)]]) (.arr 2 [[A3 pn,.A1 2 (A8 pp)]]);refine wt s0 ?_;subst hE;exact⟨e0'.symm,hI2⟩
      |true=>
       have e0':AQ cc= .sc .nilIface:=(by simp only[AQ,hcc,AB]);rw[hcc]at hE;simp only[AB]at hE;rw[e0']at hc;refine wt s9 ?_;replace zz:=Ae s0 sV sN sI s9;refine uU zz (hc _) ?_;refine xH 17 (uu s0 @B4) ?_;refine⟨?_⟩;refine H7 10 rfl (sq A4) (λn H=>by simp only[AN];exact⟨Bi,B8 (C6 n _),trivial⟩) ?_;refine Cf (λS H=>S 0= .ptr id 0 0/\S 55= .A1 6 (Sx.rows rest)/\S 56= qK rest.length/\S 57= qK k/\S 10= .Aj [A3 pn,.A1 2 (A8 pp)]/\S 11= .sc .nilIface/\DV h0 id {d with Ay:=L} H) ⟨sq s0,sq sV,sq sN,sq sI,sq A4,sq A4,hI.tmp _ _⟩ ?_;clear s0 sV sN sI s9 hI hc;rintro S h' ⟨s0,sV,sN,sI,s9,s10,hI⟩;obtain⟨g,Bt,t,c,p,f,a,u,e0,e1,e2,e3,e4,e5,e6⟩:=hI;obtain⟨H,t1,t2,t3,eH,hP⟩:=DV.qG ⟨pn,pp⟩ g Bt e0 e1 e2 e3 e4 e5 e6;simp only at t1 t2 eH hP e0;have hri:=Mm L;have hbb:(L.length+1)*40<=140737488355328:=(by omega);have n2:(id=H.next)=False:=(by simp;omega);have n3:(id=h'.next)=False:=(by simp;omega);have hpc:=e3.cell;replace zz:=AY s0 s9 s10 sV sN sI w7 e0 eH n2 n3 (Ad t1 t2 t3 hri hbb hpc hap);refine wy zz ?_;(try simp only[At,simprocAttr]);replace zz:=Ae s0 sV sN sI w7;refine wt zz ?_;first
        |exact⟨rest.length-(k+1),by omega,k+1,L++[⟨pn,pp⟩],rfl,by omega,rfl,by simp;omega,hP,hE⟩
        |exact⟨rest.length-(k+1),by omega,sq s0,sq sV,sq sN,k+1,L++[⟨pn,pp⟩],sq A4,by omega,rfl,by simp;omega,hP,hE⟩
     ·have hd:decide ((k:Int)<(rest.length:Int))=false:=(by simp;omega);rw[List.drop_eq_nil_of_le (by omega)]at hE;simp only[Gf]at hE;subst hE;replace zz:=Ae s0 sV sN sI hd;refine wt zz ?_;first|exact hI|exact⟨rfl,hI⟩
    |false=>
     cases qe:(w.data.toList==(#[58,102,117,110,99,116,105,111,110,115]:Array UInt8).toList)with
     |true=>
      have e:D9 d w rest (.mk kind value line col text kids)=({d with Au:=(Gg d.Au rest).1},(Gg d.Au rest).2):=(by unfold D9;simp only[show A2 w Gq=false from qa,show A2 w Ds=false from qb,show A2 w E7=false from qc,show A2 w EF=false from qd,show A2 w EG=true from qe,AB,AJ]);rw[e];clear e;generalize hE:Gg d.Au rest=E;refine AD func61 ntmps61 results61 Ty.Kq ?_;replace zz:=AY r0 q0 qa qb qc qd qe q1' ht hll @CW @CX;refine wt zz ?_;refine By (λm S H=>S 0= .ptr id 0 0/\S 82= .A1 6 (Sx.rows rest)/\S 83= qK rest.length/\ ∃ (k:Nat)(L:List Fu),S 84= qK k/\k<=rest.length/\m=rest.length-k/\L.length<=d.Au.length+k/\DV h0 id {d with Au:=L} H/\E=Gg L (rest.drop k)) rest.length ?_ ?_
      ·simp only[Ty.w,simprocAttr];exact⟨0,d.Au,rfl,Bj _,rfl,AG _,hI,by rw[List.drop_zero];exact hE.symm⟩
      clear hI hE;rintro m S H ⟨s0,sV,sN,k,L,sI,hk,rfl,hL,hI,hE⟩;by_cases hlt:k<rest.length
      ·have hd:decide ((k:Int)<(rest.length:Int))=true:=(by simp;omega);have w7:IntKind.i64.wrap ((k:Int)+1)=((k+1:Nat):Int):=(by rw[BM (by omega) (by omega)];omega);obtain⟨y,hx⟩: ∃ y,rest[k]? =some y:=⟨_,List.getElem?_eq_getElem hlt⟩;have hr:=Sx.CG hx;have hmem:=List.mem_of_getElem? hx;have hc:=λh:A0=>nW (hlo y hmem) (hls y hmem) h;rw[Ca hx]at hE;simp only[Gg]at hE;generalize HY y=A at hE hc;obtain⟨x0,cc⟩:=A;simp only at hE hc;clear hx hmem;obtain⟨vk,vv,vl,vc,vt,vs⟩:=y;simp only[Sx.cells]at hr hc;obtain⟨cu,hu⟩:=Dv cc;have hap:=nu L x0;replace zz:=Ah s0 sV sN sI hd hr;refine xG 26 zz ?_;refine⟨?_⟩;refine H7 13 rfl (sq A4) (λn H=>FZ n H (.mk vk vv vl vc vt vs)) ?_;refine Cf (λS H=>S 0= .ptr id 0 0/\S 82= .A1 6 (Sx.rows rest)/\S 83= qK rest.length/\S 84= qK k/\S 13= .Aj [qK vk,qK vv,qK vl,qK vc,A3 vt,.A1 6 (Sx.rows vs)]/\DV h0 id {d with Au:=L} H) ⟨sq s0,sq sV,sq sN,sq sI,by simp only[Ty.w,simprocAttr,Sx.cells],hI.tmp _ _⟩ ?_;clear s0 sV sN sI hI hr hd;rintro S H ⟨s0,sV,sN,sI,s9,hI⟩;obtain⟨pn,pp,plo,phi⟩:=x0;simp only[E1]at hc hap;cases hcc:cc==0 with
       |false=>
        have e0':AQ cc=An cc:=(by simp only[AQ,hcc,AJ]);rw[hcc]at hE;simp only[AJ]at hE;rw[e0']at hc;simp only[An]at hc;refine wt s9 ?_;replace zz:=Ae s0 sV sN sI s9;refine uU zz (hc _) ?_;refine xH 27 (uu s0 @B4) ?_;refine⟨?_⟩;refine H7 14 rfl (sq A4) (λn H=>by simp only[AN];exact⟨Bi,B8 (C6 n _),Bi,Bi,trivial⟩) ?_;have hI2:=hI.tmp (.arr 4 [[.sc (.string ⟨#[]⟩),.sc (.slice none 0 0),qK 0,qK 0]]) (.arr 4 [[A3 pn,.A1 2 (A8 pp),qK plo,qK phi]]);refine wt s0 ?_;subst hE;exact⟨e0'.symm,hI2⟩
       |true=>
        have e0':AQ cc= .sc .nilIface:=(by simp only[AQ,hcc,AB]);rw[hcc]at hE;simp only[AB]at hE;rw[e0']at hc;refine wt s9 ?_;replace zz:=Ae s0 sV sN sI s9;refine uU zz (hc _) ?_;refine xH 27 (uu s0 @B4) ?_;refine⟨?_⟩;refine H7 14 rfl (sq A4) (λn H=>by simp only[AN];exact⟨Bi,B8 (C6 n _),Bi,Bi,trivial⟩) ?_;refine Cf (λS H=>S 0= .ptr id 0 0/\S 82= .A1 6 (Sx.rows rest)/\S 83= qK rest.length/\S 84= qK k/\S 14= .Aj [A3 pn,.A1 2 (A8 pp),qK plo,qK phi]/\S 15= .sc .nilIface/\DV h0 id {d with Au:=L} H) ⟨sq s0,sq sV,sq sN,sq sI,sq A4,sq A4,hI.tmp _ _⟩ ?_;clear s0 sV sN sI s9 hI hc;rintro S h' ⟨s0,sV,sN,sI,s9,s10,hI⟩;obtain⟨g,Bt,t,c,p,f,a,u,e0,e1,e2,e3,e4,e5,e6⟩:=hI;obtain⟨H,t1,t2,t3,eH,hP⟩:=DV.qH ⟨pn,pp,plo,phi⟩ g Bt e0 e1 e2 e3 e4 e5 e6;simp only at t1 t2 eH hP e0;have hri:=Mn L;have hbb:(L.length+1)*56<=140737488355328:=(by omega);have n2:(id=H.next)=False:=(by simp;omega);have n3:(id=h'.next)=False:=(by simp;omega);have hpc:=e4.cell;replace zz:=AY s0 s9 s10 sV sN sI w7 e0 eH n2 n3 (Ad t1 t2 t3 hri hbb hpc hap);refine wy zz ?_;(try simp only[At,simprocAttr]);replace zz:=Ae s0 sV sN sI w7;refine wt zz ?_;first
         |exact⟨rest.length-(k+1),by omega,k+1,L++[⟨pn,pp,plo,phi⟩],rfl,by omega,rfl,by simp;omega,hP,hE⟩
         |exact⟨rest.length-(k+1),by omega,sq s0,sq sV,sq sN,k+1,L++[⟨pn,pp,plo,phi⟩],sq A4,by omega,rfl,by simp;omega,hP,hE⟩
      ·have hd:decide ((k:Int)<(rest.length:Int))=false:=(by simp;omega);rw[List.drop_eq_nil_of_le (by omega)]at hE;simp only[Gg]at hE;subst hE;replace zz:=Ae s0 sV sN sI hd;refine wt zz ?_;first|exact hI|exact⟨rfl,hI⟩
     |false=>
      cases qf:(w.data.toList==(#[58,97,99,116,105,111,110]:Array UInt8).toList)with
      |true=>
       have e:D9 d w rest (.mk kind value line col text kids)=({d with Av:=d.Av++[(HA (.mk kind value line col text kids)).1]},(HA (.mk kind value line col text kids)).2):=(by unfold D9;simp only[show A2 w Gq=false from qa,show A2 w Ds=false from qb,show A2 w E7=false from qc,show A2 w EF=false from qd,show A2 w EG=false from qe,show A2 w Cg=true from qf,AB,AJ]);rw[e];clear e;have hc:=λh:A0=>nh hxo hxs h;generalize HA (.mk kind value line col text kids)=A at hc⊢;obtain⟨⟨an,ap,ac,⟨gop,gna,gar,gpa,gex,gki⟩,ach⟩,cc⟩:=A;obtain⟨cu,hu⟩:=Dv cc;have hap:=nw d.Av ⟨an,ap,ac,⟨gop,gna,gar,gpa,gex,gki⟩,ach⟩;simp only[hu,Sx.cells,hR,DF,Fm.cells,List.cons_append,List.nil_append]at hc hap⊢;refine AD func61 ntmps61 results61 Ty.Kq ?_;replace zz:=AY r0 q0 qa qb qc qd qe qf q1' ht hll (uu @CW @CX);refine wt zz ?_;refine uU r0 (hc _) ?_;refine xG 34 @B4 ?_;refine⟨?_⟩;refine H7 16 rfl (sq A4) (λn H=>by simp only[AN];exact⟨Bi,B8 (C6 n _),Bi,Bi,Bi,B8 (Df n _),B8 (C6 n _),B8 (EE n _),B8 (El n _),B8 (Gp n _),trivial⟩) ?_;refine Cf (λS H=>S 0= .ptr id 0 0/\S 16= .Aj [A3 an,.A1 2 (A8 ap),qK ac,A3 gop,A3 gna,.A1 1 (AL gar),.A1 2 (A8 gpa),.A1 5 (Ex.rows gex),.A1 6 (Fm.rows gki),.A1 15 (Ag ach)]/\S 17= .sc cu/\DV h0 id d H) ⟨sq A4,sq A4,sq A4,hI.tmp _ _⟩ ?_;clear hI hc;rintro S h' ⟨s0,s9,s10,hI⟩;obtain⟨g,Bt,t,c,p,f,a,u,e0,e1,e2,e3,e4,e5,e6⟩:=hI;obtain⟨H,t1,t2,t3,eH,hP⟩:=DV.qI ⟨an,ap,ac,⟨gop,gna,gar,gpa,gex,gki⟩,ach⟩ g Bt e0 e1 e2 e3 e4 e5 e6;have hri:=Ln d.Av;have hbb:(d.Av.length+1)*200<=140737488355328:=(by omega);have n2:(id=H.next)=False:=(by simp;omega);have n3:(id=h'.next)=False:=(by simp;omega);have hpc:=e5.cell;replace zz:=AY s0 s9 s10 e0 eH n2 n3 t1 t2 t3 hri (AU hbb hpc hap);refine wy zz ?_;first|exact hP|exact⟨rfl,hP⟩
      |false=>
       cases qg:(w.data.toList==(#[58,100,117,114,97,116,105,118,101,45,97,99,116,105,111,110]:Array UInt8).toList)with
       |true=>
        have e:D9 d w rest (.mk kind value line col text kids)=({d with B0:=d.B0++[(HB (.mk kind value line col text kids)).1]},(HB (.mk kind value line col text kids)).2):=(by unfold D9;simp only[show A2 w Gq=false from qa,show A2 w Ds=false from qb,show A2 w E7=false from qc,show A2 w EF=false from qd,show A2 w EG=false from qe,show A2 w Cg=false from qf,show A2 w D8=true from qg,AB,AJ]);rw[e];clear e;have hc:=λh:A0=>nq hxo hxs h;generalize HB (.mk kind value line col text kids)=A at hc⊢;obtain⟨⟨an,ap,ac,⟨gop,gna,gar,gpa,gex,gki⟩,⟨kop,kna,kar,kpa,kex,kki⟩,⟨lop,lna,lar,lpa,lex,lki⟩,ach,bch⟩,cc⟩:=A;obtain⟨cu,hu⟩:=Dv cc;have hap:=ny d.B0 ⟨an,ap,ac,⟨gop,gna,gar,gpa,gex,gki⟩,⟨kop,kna,kar,kpa,kex,kki⟩,⟨lop,lna,lar,lpa,lex,lki⟩,ach,bch⟩;simp only[hu,Sx.cells,hR,DG,Fm.cells,List.cons_append,List.nil_append]at hc hap⊢;refine AD func61 ntmps61 results61 Ty.Kq ?_;replace zz:=AY r0 q0 qa qb qc qd qe qf qg q1' ht (AU hll @CW @CX);refine wt zz ?_;refine uU r0 (hc _) ?_;refine xG 38 @B4 ?_;refine⟨?_⟩;refine H7 18 rfl (sq A4) (λn H=>by simp only[AN];exact⟨Bi,B8 (C6 n _),Bi,Bi,Bi,B8 (Df n _),B8 (C6 n _),B8 (EE n _),B8 (El n _),Bi,Bi,B8 (Df n _),B8 (C6 n _),B8 (EE n _),B8 (El n _),Bi,Bi,B8 (Df n _),B8 (C6 n _),B8 (EE n _),B8 (El n _),B8 (Gp n _),B8 (Gp n _),trivial⟩) ?_;refine Cf (λS H=>S 0= .ptr id 0 0/\S 18= .Aj [A3 an,.A1 2 (A8 ap),qK ac,A3 gop,A3 gna,.A1 1 (AL gar),.A1 2 (A8 gpa),.A1 5 (Ex.rows gex),.A1 6 (Fm.rows gki),A3 kop,A3 kna,.A1 1 (AL kar),.A1 2 (A8 kpa),.A1 5 (Ex.rows kex),.A1 6 (Fm.rows kki),A3 lop,A3 lna,.A1 1 (AL lar),.A1 2 (A8 lpa),.A1 5 (Ex.rows lex),.A1 6 (Fm.rows lki),.A1 15 (Ag ach),.A1 15 (Ag bch)]/\S 19= .sc cu/\DV h0 id d H) ⟨sq A4,sq A4,sq A4,hI.tmp _ _⟩ ?_;clear hI hc;rintro S h' ⟨s0,s9,s10,hI⟩;obtain⟨g,Bt,t,c,p,f,a,u,e0,e1,e2,e3,e4,e5,e6⟩:=hI;obtain⟨H,t1,t2,t3,eH,hP⟩:=DV.qJ ⟨an,ap,ac,⟨gop,gna,gar,gpa,gex,gki⟩,⟨kop,kna,kar,kpa,kex,kki⟩,⟨lop,lna,lar,lpa,lex,lki⟩,ach,bch⟩ g Bt e0 e1 e2 e3 e4 e5 e6;have hri:=Lo d.B0;have hbb:(d.B0.length+1)*480<=140737488355328:=(by omega);have n2:(id=H.next)=False:=(by simp;omega);have n3:(id=h'.next)=False:=(by simp;omega);have hpc:=e6.cell;replace zz:=AY s0 s9 s10 e0 eH n2 n3 t1 t2 t3 hri (AU hbb hpc hap);refine wy zz ?_;first|exact hP|exact⟨rfl,hP⟩
       |false=>
        have e:D9 d w rest (.mk kind value line col text kids)=(d,2):=(by unfold D9;simp only[show A2 w Gq=false from qa,show A2 w Ds=false from qb,show A2 w E7=false from qc,show A2 w EF=false from qd,show A2 w EG=false from qe,show A2 w Cg=false from qf,show A2 w D8=false from qg,AB,AJ]);rw[e];clear e;refine AD func61 ntmps61 results61 Ty.Kq ?_;replace zz:=AY r0 q0 qa qb qc qd qe qf qg q1' ht (AU hll @CW @CX);refine wt zz ?_;first|exact hI|exact⟨rfl,hI⟩
set_option maxHeartbeats 4000000
theorem On{v:Bool}{l:List Sx}(h: ∀ x∈l,x.ok): ∀ p∈(C5 v l).1,p.ok:=
 (Si v l.length l (AG _) h [] [] (by simp) (by simp)).1
theorem YG(hok:x.ok)(hsm:x.small):(GP x).1.length<=1048576/\ ∀ p∈(GP x).1,p.ok:=by
 unfold GP;cases Az x==3 with
 |false=>simp
 |true=>
  obtain⟨kind,value,line,col,text,kids⟩:=x;simp only[Sx.ok]at hok;simp only[Sx.small]at hsm;simp only[AB,BS];exact⟨ER (OX true kids) hsm.1,On (Sx.Bs.1 hok.2.2.2.2)⟩
theorem YH(hok:x.ok):(En x).1.length<=1048576/\ ∀ c∈(En x).1,c.ok/\Fe c:=by
 unfold En;split
 ·rename_i v;have hsm:=Kx v;have hnd:=((JO x 0 0 (by omega) (by omega)).1.1 v).2.2;have hS:E5.Ka ⟨[],[]⟩ x.nodes:=⟨by simp,by simp only[List.length_nil];omega,by simp,by simp only[List.length_nil];omega⟩;have hcs:=Sr _ x (AG _) ⟨[],[]⟩ hok hsm hS;have hln:=QO _ x (AG _) ⟨[],[]⟩;split
  ·split
   ·exact ⟨by simp only;omega,hcs⟩
   ·simp
  ·simp
 ·simp
theorem TB(hok:x.ok): -9223372036854775808<=L9 x/\L9 x<=9223372036854775807:=by
 obtain⟨kind,value,line,col,text,kids⟩:=x;simp only[Sx.ok]at hok;exact hok.2.1
theorem YI(hok:x.ok): -9223372036854775808<=(FT x).1/\(FT x).1<=9223372036854775807:=by
 unfold FT;cases Az x==2 with
 |false=>simp
 |true=>exact TB hok
theorem YJ(hok:x.ok):(Dt x).1.size<=AF:=by
 have h0:(⟨#[]⟩:ByteArray).size<=AF:=by decide
 obtain⟨kind,value,line,col,text,kids⟩:=x;simp only[Sx.ok]at hok;have hk:=Sx.Bs.1 hok.2.2.2.2;unfold Dt;simp only[BS];rcases kids with _|⟨a,_|⟨n,rest⟩⟩
 ·exact h0
 ·exact h0
 ·simp only;cases Az n==1 with
  |false=>exact h0
  |true=>
   cases As (Af n)with
   |false=>exact h0
   |true=>exact OM (hk n (by simp))
def MJ(a:Ac):Prop:=a.ok/\OU a
def MK(a:Du):Prop:=a.ok/\OV a
theorem LM:Bu.ok/\Bu.small:=XM
theorem o8{n:ByteArray}(h:n.size<=AF):MJ (Eb n):=
 ⟨⟨h,⟨by simp[Eb,AF],by simp[Eb]⟩,by simp[Eb],LM.1,⟨by simp[Eb,AF],by simp[Eb]⟩⟩,⟨by simp[Eb],LM.2,by simp[Eb],by simp[Eb]⟩⟩
theorem o9{n:ByteArray}(h:n.size<=AF):MK (DZ n):=
 ⟨⟨h,⟨by simp[DZ,AF],by simp[DZ]⟩,by simp[DZ],LM.1,LM.1,LM.1,⟨by simp[DZ,AF],by simp[DZ]⟩,⟨by simp[DZ,AF],by simp[DZ]⟩⟩,⟨by simp[DZ],LM.2,LM.2,LM.2,⟨by simp[DZ],by simp[DZ]⟩,⟨by simp[DZ],by simp[DZ]⟩⟩⟩
theorem I6(h:n<=1048576):n<=AF:=by unfold AF;omega
theorem oA{a:Ac}(h:MJ a){k:ByteArray}{v:Sx}(hok:v.ok)(hsm:v.small):MJ (E8 a k v).1:=by
 obtain⟨⟨h1,h2,h3,h4,h5⟩,⟨s1,s2,s3,s4⟩⟩:=h;unfold E8;cases A2 k Cc with
 |true=>have p:=YG hok hsm;exact⟨⟨h1,⟨I6 p.1,p.2⟩,h3,h4,h5⟩,⟨p.1,s2,s3,s4⟩⟩
 |false=>
  cases A2 k EZ with
  |true=>exact⟨⟨h1,h2,YI hok,h4,h5⟩,⟨s1,s2,s3,s4⟩⟩
  |false=>
   cases A2 k Ff with
   |true=>have p:=Sj hok;exact⟨⟨h1,h2,h3,p.1,h5⟩,⟨s1,p.2,s3,s4⟩⟩
   |false=>have p:=YH hok;exact⟨⟨h1,h2,h3,h4,⟨I6 p.1,λc hc=>(p.2 c hc).1⟩⟩,⟨s1,s2,p.1,λc hc=>(p.2 c hc).2⟩⟩
theorem YK: ∀ (l:List (ByteArray × Sx)){a:Ac},MJ a->(∀ kv∈l,kv.2.ok/\kv.2.small)->MJ (Gr a l).1
 |[],a,h,_=>h
 |kv::l,a,h,hl=>by
  have h1:=oA h (k:=kv.1) (hl kv (by simp)).1 (hl kv (by simp)).2;unfold Gr;cases(E8 a kv.1 kv.2).2==0 with
  |true=>exact YK l h1 λq hq=>hl q (by simp[hq])
  |false=>exact h1
theorem oB{a:Du}(h:MK a){k:ByteArray}{v:Sx}(hok:v.ok)(hsm:v.small):MK (D2 a k v).1:=by
 obtain⟨⟨h1,h2,h3,h4,h5,h6,h7,h8⟩,⟨s1,s2,s3,s4,s5,s6⟩⟩:=h;unfold D2;cases A2 k Cc with
 |true=>have p:=YG hok hsm;exact⟨⟨h1,⟨I6 p.1,p.2⟩,h3,h4,h5,h6,h7,h8⟩,⟨p.1,s2,s3,s4,s5,s6⟩⟩
 |false=>
  cases A2 k E6 with
  |true=>exact⟨⟨h1,h2,YI hok,h4,h5,h6,h7,h8⟩,⟨s1,s2,s3,s4,s5,s6⟩⟩
  |false=>
   have p:=Sj hok;have e:=YH hok;cases A2 k Ez with
   |true=>exact⟨⟨h1,h2,h3,p.1,h5,h6,h7,h8⟩,⟨s1,p.2,s3,s4,s5,s6⟩⟩
   |false=>
    cases A2 k FE with
    |true=>exact⟨⟨h1,h2,h3,h4,p.1,h6,h7,h8⟩,⟨s1,s2,p.2,s4,s5,s6⟩⟩
    |false=>
     cases A2 k FO with
     |true=>exact⟨⟨h1,h2,h3,h4,h5,p.1,h7,h8⟩,⟨s1,s2,s3,p.2,s5,s6⟩⟩
     |false=>
      cases A2 k Fg with
      |true=>exact⟨⟨h1,h2,h3,h4,h5,h6,⟨I6 e.1,λc hc=>(e.2 c hc).1⟩,h8⟩,⟨s1,s2,s3,s4,⟨e.1,λc hc=>(e.2 c hc).2⟩,s6⟩⟩
      |false=>exact⟨⟨h1,h2,h3,h4,h5,h6,h7,⟨I6 e.1,λc hc=>(e.2 c hc).1⟩⟩,⟨s1,s2,s3,s4,s5,⟨e.1,λc hc=>(e.2 c hc).2⟩⟩⟩
theorem YL: ∀ (l:List (ByteArray × Sx)){a:Du},MK a->(∀ kv∈l,kv.2.ok/\kv.2.small)->MK (Gs a l).1
 |[],a,h,_=>h
 |kv::l,a,h,hl=>by
  have h1:=oB h (k:=kv.1) (hl kv (by simp)).1 (hl kv (by simp)).2;unfold Gs;cases(D2 a kv.1 kv.2).2==0 with
  |true=>exact YL l h1 λq hq=>hl q (by simp[hq])
  |false=>exact h1
theorem TC: ∀ (l:List Sx)(kws:List ByteArray), ∀ kv∈(CL l kws).1,kv.2∈l
 |[],_,kv,h=>by simp[CL]at h
 |[_],_,kv,h=>by simp[CL]at h
 |a::v::rest,kws,kv,h=>by
  simp only[CL]at h;cases k:Az a==1 with
  |false=>rw[k]at h;simp at h
  |true=>
   rw[k,AB]at h;cases ha:IU kws (Af a)with
   |none=>rw[ha]at h;simp at h
   |some k'=>
    rw[ha]at h;simp only[List.mem_cons]at h;rcases h with rfl|h
    ·simp
    ·have:=TC rest k' kv h;simp[this]
theorem TD(hok:x.ok)(hsm:x.small): ∀ k∈BS x,k.ok/\k.small:=by
 obtain⟨kind,value,line,col,text,kids⟩:=x;simp only[Sx.ok]at hok;simp only[Sx.small]at hsm;exact λk hk=>⟨Sx.Bs.1 hok.2.2.2.2 k hk,Sx.Es.1 hsm.2 k hk⟩
theorem oC(hok:x.ok)(hsm:x.small):MJ (HA x).1:=by
 have h0:=o8 (YJ hok);have hk:=TD hok hsm;have hp:=YK (CL ((BS x).drop 2) FQ).1 h0 (λkv hkv=>hk _ (List.mem_of_mem_drop (TC _ _ kv hkv)));unfold HA;cases(Dt x).2==0 with
 |false=>exact h0
 |true=>
  simp only[AB];cases(Gr (Eb (Dt x).1) (CL ((BS x).drop 2) FQ).1).2==0<;>exact hp
theorem oD(hok:x.ok)(hsm:x.small):MK (HB x).1:=by
 have h0:=o9 (YJ hok);have hk:=TD hok hsm;have hp:=YL (CL ((BS x).drop 2) Fj).1 h0 (λkv hkv=>hk _ (List.mem_of_mem_drop (TC _ _ kv hkv)));unfold HB;cases(Dt x).2==0 with
 |false=>exact h0
 |true=>
  simp only[AB];cases(Gs (DZ (Dt x).1) (CL ((BS x).drop 2) Fj).1).2==0<;>exact hp
def Oo(p:Pr):Prop:=p.ok/\p.params.length<=1048576
def Oq(p:Fu):Prop:=p.ok/\p.params.length<=1048576
theorem YM:Oo LL:=⟨⟨by decide,by simp[LL,AF],by simp[LL]⟩,by simp[LL]⟩
theorem QX:Oq I5:=⟨⟨by decide,⟨by simp[I5,AF],by simp[I5]⟩,by simp[I5],by simp[I5]⟩,by simp[I5]⟩
theorem oE(hok:x.ok)(hsm:x.small):Oo (HX x).1:=by
 unfold HX;cases hD:Br x with
 |none=>exact YM
 |some wl=>
  obtain⟨w,l⟩:=wl;obtain⟨h1,h2,h3⟩:=LH hok hsm hD;simp only;cases As w with
  |false=>exact YM
  |true=>have:=OX true l;exact⟨⟨h1,⟨I6 (ER this h2),On h3⟩⟩,ER this h2⟩
theorem oF(hok:x.ok)(hsm:x.small):Oq (HY x).1:=by
 unfold HY;cases hD:Br x with
 |none=>exact QX
 |some wl=>
  obtain⟨w,l⟩:=wl;obtain⟨h1,h2,h3⟩:=LH hok hsm hD;simp only;split
  ·rename_i lo hi he;have m1:lo∈l:=List.mem_of_mem_drop (by rw[he];simp);have m2:hi∈l:=List.mem_of_mem_drop (by rw[he];simp);cases Az lo==2&&Az hi==2 with
   |false=>exact QX
   |true=>
    simp only[AB];cases As w with
    |false=>exact QX
    |true=>
     have h4:=OX true (l.take (l.length-2));rw[List.length_take]at h4;have h5:(C5 true (l.take (l.length-2))).1.length<=1048576:=(by omega);exact⟨⟨h1,⟨I6 h5,On λy hy=>h3 y (List.mem_of_mem_take hy)⟩,TB (h3 lo m1),TB (h3 hi m2)⟩,h5⟩
  ·exact QX
theorem YN: ∀ (l:List Sx)(p:List Pr),(∀ x∈l,x.ok/\x.small)->(∀ q∈p,Oo q)->(∀ q∈(Gf p l).1,Oo q)/\(Gf p l).1.length<=p.length+l.length
 |[],p,_,hp=>⟨hp,by simp[Gf]⟩
 |x::l,p,hl,hp=>by
  have h1:=oE (hl x (by simp)).1 (hl x (by simp)).2;unfold Gf;cases(HX x).2==0 with
  |false=>exact⟨hp,by simp⟩
  |true=>
   have:=YN l (p++[(HX x).1]) (λy hy=>hl y (by simp[hy])) (λq hq=>by
    rcases List.mem_append.1 hq with hq|hq
    ·exact hp q hq
    ·simp only[List.mem_singleton]at hq;subst hq;exact h1)
   simp only[List.length_append,List.length_cons,List.length_nil]at this;exact⟨this.1,by simp only[AB,List.length_cons];omega⟩
theorem YO: ∀ (l:List Sx)(p:List Fu),(∀ x∈l,x.ok/\x.small)->(∀ q∈p,Oq q)->(∀ q∈(Gg p l).1,Oq q)/\(Gg p l).1.length<=p.length+l.length
 |[],p,_,hp=>⟨hp,by simp[Gg]⟩
 |x::l,p,hl,hp=>by
  have h1:=oF (hl x (by simp)).1 (hl x (by simp)).2;unfold Gg;cases(HY x).2==0 with
  |false=>exact⟨hp,by simp⟩
  |true=>
   have:=YO l (p++[(HY x).1]) (λy hy=>hl y (by simp[hy])) (λq hq=>by
    rcases List.mem_append.1 hq with hq|hq
    ·exact hp q hq
    ·simp only[List.mem_singleton]at hq;subst hq;exact h1)
   simp only[List.length_append,List.length_cons,List.length_nil]at this;exact⟨this.1,by simp only[AB,List.length_cons];omega⟩
structure Gh(d:Dm)(n:Nat):Prop where
 name:d.name.size<=AF
 types:d.types.length<=1048576/\ ∀ p∈d.types,p.ok
 consts:d.constants.length<=1048576/\ ∀ p∈d.constants,p.ok
 Kb:d.Ay.length+n<=1048576/\ ∀ p∈d.Ay,Oo p
 Kd:d.Au.length+n<=1048576/\ ∀ p∈d.Au,Oq p
 Ke:d.Av.length+n<=1048576/\ ∀ p∈d.Av,MJ p
 LY:d.B0.length+n<=1048576/\ ∀ p∈d.B0,MK p
theorem Gh.ok(h:Gh d n):d.ok:=by
 obtain⟨h1,h2,h3,h4,h5,h6,h7⟩:=h;exact⟨h1,⟨I6 h2.1,h2.2⟩,⟨I6 h3.1,h3.2⟩,⟨I6 (by omega),λp hp=>(h4.2 p hp).1⟩,⟨I6 (by omega),λp hp=>(h5.2 p hp).1⟩,⟨I6 (by omega),λp hp=>(h6.2 p hp).1⟩,⟨I6 (by omega),λp hp=>(h7.2 p hp).1⟩⟩
theorem Gh.sm(h:Gh d n):Od d:=by
 obtain⟨h1,h2,h3,h4,h5,h6,h7⟩:=h;exact⟨h2.1,h3.1,⟨by omega,λp hp=>(h4.2 p hp).2⟩,⟨by omega,λp hp=>(h5.2 p hp).2⟩,⟨by omega,λp hp=>(h6.2 p hp).2⟩,⟨by omega,λp hp=>(h7.2 p hp).2⟩⟩
theorem Gh.mono{m:Nat}(h:Gh d n)(hm:m<=n):Gh d m:=by
 obtain⟨h1,h2,h3,h4,h5,h6,h7⟩:=h;exact⟨h1,h2,h3,⟨by omega,h4.2⟩,⟨by omega,h5.2⟩,⟨by omega,h6.2⟩,⟨by omega,h7.2⟩⟩
theorem TE(hok:x.ok)(hsm:x.small){w:ByteArray}{l:List Sx}(h:Br x=some (w,l)):(∀ y∈l,y.ok/\y.small)/\l.length<x.nodes:=by
 have hk:=TD hok hsm;obtain⟨kind,value,line,col,text,kids⟩:=x;obtain⟨y,rfl,_,_⟩:=NC h;refine⟨λz hz=>hk z (by simp[BS,hz]),?_⟩;have hl: ∀ l:List Sx,l.length<=Sx.Aq l:=λl=>by
  induction l with
  |nil=>simp
  |cons a l ih=>have:=Sx.HG a;simp only[List.length_cons,Sx.Aq];omega
 have:=hl l;have:=Sx.HG y;simp only[Sx.nodes,Sx.Aq];omega
theorem YP{w:ByteArray}{rest:List Sx}(hok:x.ok)(hsm:x.small)(hD:Br x=some (w,rest))(h:Gh d (n+x.nodes)):Gh (D9 d w rest x).1 n:=by
 obtain⟨hb,hln⟩:=TE hok hsm hD;obtain⟨_,hl,hlo⟩:=LH hok hsm hD;have h':=h.mono (TO n x.nodes);obtain⟨h1,h2,h3,h4,h5,h6,h7⟩:=h;obtain⟨g1,g2,g3,g4,g5,g6,g7⟩:=h';have hpl:=OX false rest;unfold D9;cases A2 w Gq with
 |true=>exact⟨g1,g2,g3,g4,g5,g6,g7⟩
 |false=>
  cases A2 w Ds with
  |true=>exact⟨g1,⟨ER hpl hl,On hlo⟩,g3,g4,g5,g6,g7⟩
  |false=>
   cases A2 w E7 with
   |true=>exact⟨g1,g2,⟨ER hpl hl,On hlo⟩,g4,g5,g6,g7⟩
   |false=>
    cases A2 w EF with
    |true=>have p:=YN rest d.Ay hb h4.2;exact⟨g1,g2,g3,⟨by show(Gf d.Ay rest).1.length+n<=_;omega,p.1⟩,g5,g6,g7⟩
    |false=>
     cases A2 w EG with
     |true=>have p:=YO rest d.Au hb h5.2;exact⟨g1,g2,g3,g4,⟨by show(Gg d.Au rest).1.length+n<=_;omega,p.1⟩,g6,g7⟩
     |false=>
      cases A2 w Cg with
      |true=>
       have p:=oC hok hsm;refine⟨g1,g2,g3,g4,g5,⟨by show(d.Av++[(HA x).1]).length+n<=_;simp;omega,λq hq=>?_⟩,g7⟩;rcases List.mem_append.1 hq with hq|hq
       ·exact h6.2 q hq
       ·simp only[List.mem_singleton]at hq;subst hq;exact p
      |false=>
       cases A2 w D8 with
       |true=>
        have p:=oD hok hsm;refine⟨g1,g2,g3,g4,g5,g6,⟨by show(d.B0++[(HB x).1]).length+n<=_;simp;omega,λq hq=>?_⟩⟩;rcases List.mem_append.1 hq with hq|hq
        ·exact h7.2 q hq
        ·simp only[List.mem_singleton]at hq;subst hq;exact p
       |false=>exact⟨g1,g2,g3,g4,g5,g6,g7⟩
theorem YQ: ∀ (l:List Sx)(d:Dm)(seen:List ByteArray),(∀ x∈l,x.ok/\x.small)->Gh d (Sx.Aq l)->Gh (Je d seen l).1 0
 |[],d,seen,_,h=>h.mono (Bj _)
 |k::l,d,seen,hl,h=>by
  have hk:=hl k (by simp);simp only[Sx.Aq]at h;have hs:Gh (FU d seen k).1 (Sx.Aq l):=by
   unfold FU;cases hD:Br k with
   |none=>exact h.mono (by omega)
   |some wr=>
    obtain⟨w,rest⟩:=wr;have:=YP (n:=Sx.Aq l) hk.1 hk.2 hD (by rw[TU];exact h);simp only;cases MI.any (A2 w)with
    |false=>exact this
    |true=>
     simp only[AB];cases seen.any (A2 w)with
     |true=>exact h.mono (by omega)
     |false=>exact this
  unfold Je;cases(FU d seen k).2.2==0 with
  |false=>exact hs.mono (Bj _)
  |true=>exact YQ l _ _ (λx hx=>hl x (by simp[hx])) hs
theorem ML(hn:n<=1048576):Gh Ft n:=
 ⟨by decide,by simp[Ft],by simp[Ft],⟨by simp[Ft];omega,by simp[Ft]⟩,⟨by simp[Ft];omega,by simp[Ft]⟩,⟨by simp[Ft];omega,by simp[Ft]⟩,⟨by simp[Ft];omega,by simp[Ft]⟩⟩
theorem TF{s:ByteArray}(hs:s.size<=AF)(hn:n<=1048576):Gh (GB s) n:=
 ⟨hs,by simp[GB],by simp[GB],⟨by simp[GB];omega,by simp[GB]⟩,⟨by simp[GB];omega,by simp[GB]⟩,⟨by simp[GB];omega,by simp[GB]⟩,⟨by simp[GB];omega,by simp[GB]⟩⟩
theorem YR{want:ByteArray}(hok:x.ok):(HR x want).1.size<=AF:=by
 have h0:(⟨#[]⟩:ByteArray).size<=AF:=by decide
 unfold HR;cases hD:Br x with
 |none=>exact h0
 |some wr=>
  obtain⟨w,rest⟩:=wr;simp only;cases A2 w want with
  |false=>exact h0
  |true=>
   simp only[AB]
   match rest,hD with
   |[],_=>exact h0
   |[r],hD=>
    simp only;obtain⟨kind,value,line,col,text,kids⟩:=x;obtain⟨y,rfl,_,_⟩:=NC hD;simp only[Sx.ok]at hok;have hr:=Sx.Bs.1 hok.2.2.2.2 r (by simp);cases Az r==1 with
    |false=>exact h0
    |true=>
     cases As (Af r)with
     |false=>exact h0
     |true=>exact OM hr
   |_::_::_,_=>exact h0
theorem YS(hok:x.ok)(hsm:x.small)(hn:x.nodes<=4096):Gh (Jf x).1 0:=by
 unfold Jf;cases hD:Br x with
 |none=>exact ML (by omega)
 |some wr=>
  obtain⟨w,rest⟩:=wr;simp only;cases A2 w DQ with
  |false=>exact ML (by omega)
  |true=>
   simp only[AB];cases rest with
   |nil=>exact ML (by omega)
   |cons n secs=>
    simp only;have hb:=TE hok hsm hD;have hnd:Sx.Aq secs<=x.nodes:=by
     obtain⟨kind,value,line,col,text,kids⟩:=x;obtain⟨y,rfl,_,_⟩:=NC hD;simp only[Sx.nodes,Sx.Aq];omega
    cases(HR n CU).2==0 with
    |false=>exact ML (by omega)
    |true=>exact YQ secs _ _ (λy hy=>hb.1 y (by simp[hy])) (TF (YR (hb.1 n (by simp)).1) (by omega))
theorem oG(hok:x.ok):Gh (KP x).1 0:=by
 unfold KP;split
 ·rename_i v;have hnd:=((JO x 0 0 (by omega) (by omega)).1.1 v).2.2;split
  ·split
   ·exact YS hok (Kx v) (by omega)
   ·exact ML (by omega)
  ·exact ML (by omega)
 ·exact ML (by omega)
set_option maxHeartbeats 8000000
abbrev MM:List PV:=[.sc (.string ⟨#[]⟩),.sc (.slice none 0 0),.sc (.slice none 0 0),.sc (.slice none 0 0),.sc (.slice none 0 0),.sc (.slice none 0 0),.sc (.slice none 0 0)]
def Ig(l:List ByteArray):List (Value × PV):=l.map λw=>(.string w,.sc (.bool true))
theorem Nf(a b:ByteArray):(a==b)=A2 a b:=by
 obtain⟨a⟩:=a;obtain⟨b⟩:=b;show(a==b)=(a.toList==b.toList);rw[Yu,F0,F0];exact Array.toList_inj.symm
theorem YT(w:ByteArray): ∀ l:List ByteArray,Hg (.string w) (Ig l)=some (bif l.any (A2 w)then some (.sc (.bool true))else none)
 |[]=>rfl
 |a::l=>by
  have ih:=YT w l;simp only[Ig]at ih;simp only[Ig,List.map_cons,Hg,ID,Nf,List.any_cons];cases A2 w a with
  |true=>rfl
  |false=>simpa using ih
theorem YU{w:ByteArray}: ∀ {l:List ByteArray},l.any (A2 w)=false->IE (.string w) (.sc (.bool true)) (Ig l)=some (Ig (l++[w]))
 |[],_=>rfl
 |a::l,h=>by
  simp only[List.any_cons,TQ]at h;have ih:=YU h.2;simp only[Ig]at ih;simp only[Ig,List.map_cons,IE,ID,Nf,h.1,List.cons_append];rw[ih];try rfl
theorem oH(l:List ByteArray)(w:ByteArray):decide (HK l w>=0)=l.any (A2 w):=by
 unfold HK;cases h:l.findIdx? (λv=>A2 w v)with
 |none=>
  rw[List.findIdx?_eq_none_iff]at h;have:l.any (A2 w)=false:=by rw[List.any_eq_false];intro x hx;simp[h x hx]
  rw[this];decide
 |some i=>
  have h2:=List.findIdx?_eq_some_iff_findIdx_eq.1 h;have:l.any (A2 w)=true:=by
   rw[List.any_eq_true];have hi:=h2.1;exact⟨l[i],List.getElem_mem hi,by have:=h2.2;subst this;exact List.findIdx_getElem⟩
  rw[this];simp
theorem YV: ∀ l:List Sx,l.length<=Sx.Aq l
 |[]=>Bj _
 |a::l=>by have:=YV l;have:=Sx.HG a;simp only[List.length_cons,Sx.Aq];omega
structure Gt(h:A0)(d:Dm)(seen:List ByteArray)(H:A0):Prop where
 ex: ∃ h0:A0,AH h h0/\h0.obj h.next=some (.arr 7 [MM])/\h0.obj (h.next+2)=some (.map (Ig seen.reverse))/\h.next+2<h0.next/\DV h0 (h.next+1) d H
theorem Gt.tmp(i:Gt h d seen H)(o o':Am):Gt h d seen (HQ H o o'):=by
 obtain⟨h0,g,o1,o2,l,di⟩:=i;exact⟨h0,g,o1,o2,l,di.tmp o o'⟩
theorem Gt.facts(i:Gt h d seen H):AH h H/\H.obj h.next=some (.arr 7 [MM])/\H.obj (h.next+2)=some (.map (Ig seen.reverse)):=by
 obtain⟨h0,g,o1,o2,l,di⟩:=i;have gy:=di.grow;refine⟨⟨ER g.le gy.le,λj hj=>(gy.B1 j (by have:=g.le;omega) (by omega)).trans (g.B1 j hj)⟩,(gy.B1 _ (by omega) (by omega)).trans o1,(gy.B1 _ l (by omega)).trans o2⟩
theorem Gt.decl(i:Gt h d seen H)(w:ByteArray):Gt h d (w::seen) (H.set (h.next+2) (.map (Ig (seen.reverse++[w])))):=by
 obtain⟨h0,g,o1,o2,l,di⟩:=i;obtain⟨gy,Bt,t,c,p,f,a,u,e0,e1,e2,e3,e4,e5,e6⟩:=di;refine⟨h0.set (h.next+2) (.map (Ig (seen.reverse++[w]))),g.set (by omega) _,(Aw (by omega)).trans o1,?_,l,⟨gy.le,λj hj hne=>?_⟩,⟨Bt.1,Bt.2⟩,t,c,p,f,a,u,(Aw (by omega)).trans e0,e1,e2,e3.EK l _,e4.EK l _,e5.EK l _,e6.EK l _⟩
 ·rw [List.reverse_cons];exact D7
 ·by_cases hj2:j=h.next+2
  ·subst hj2;rw[D7,D7]
  ·rw [Aw hj2,Aw hj2];exact gy.B1 j hj hne
theorem YW{n:Nat}{H:A0}: ∀ {rows:List (List PV)},(∀ r∈rows,AN n H r r)->DE n H rows rows
 |[],_=>by simp only[DE]
 |r::rows,h=>by
  simp only[DE];exact⟨h r (by simp),YW λq hq=>h q (by simp[hq])⟩
theorem CV{q:PV}{l m:List PV}(h:AI n H p q)(h2:AN n H l m):AN n H (p::l) (q::m):=by
 unfold AN;exact⟨h,h2⟩
theorem KR:AN n H [] []:=by simp only[AN]
theorem oI(n:Nat)(H:A0)(p:Pr):AN n H (E0 p) (E0 p):=CV Bi (CV (B8 (C6 _ _)) KR)
theorem oJ(n:Nat)(H:A0)(p:Fu):AN n H (E1 p) (E1 p):=CV Bi (CV (B8 (C6 _ _)) (CV Bi (CV Bi KR)))
theorem QY(f:Fm){l:List PV}(h:AN n H l l):AN n H (f.cells++l) (f.cells++l):=by
 obtain⟨op,na,ar,pa,ex,ki⟩:=f;simp only[Fm.cells,List.cons_append,List.nil_append];exact CV Bi (CV Bi (CV (B8 (Df _ _)) (CV (B8 (C6 _ _)) (CV (B8 (EE _ _)) (CV (B8 (El _ _)) h)))))
theorem oK(n:Nat)(H:A0)(a:Ac):AN n H (DF a) (DF a):=by
 unfold DF;exact CV Bi (CV (B8 (C6 _ _)) (CV Bi (QY _ (CV (B8 (Gp _ _)) KR))))
theorem oL(n:Nat)(H:A0)(a:Du):AN n H (DG a) (DG a):=by
 unfold DG;exact CV Bi (CV (B8 (C6 _ _)) (CV Bi (QY _ (QY _ (QY _ (CV (B8 (Gp _ _)) (CV (B8 (Gp _ _)) KR)))))))
theorem QZ{α:Type}(f:α->List PV)(hf: ∀ n H a,AN n H (f a) (f a))(n:Nat)(H:A0)(l:List α):DE n H (l.map f) (l.map f):=YW λr hr=>by
 rw[List.mem_map]at hr;obtain⟨a,_,rfl⟩:=hr;exact hf n H a
theorem YX(n:Nat): ∀ l:List Pr,B9 n (Bd l)
 |[]=>by simp only[Bd,List.map_nil,B9]
 |p::l=>by
  have:=YX n l;simp only[Bd,List.map_cons,B9]at this⊢;refine⟨?_,this⟩;simp only[E0,Bo,Bc,Fk,Do];exact C6 _ _
theorem YY(n:Nat): ∀ l:List Fu,B9 n (BY l)
 |[]=>by simp only[BY,List.map_nil,B9]
 |p::l=>by
  have:=YY n l;simp only[BY,List.map_cons,B9]at this⊢;refine⟨?_,this⟩;simp only[E1,Bo,Bc,Fk,Do];exact C6 _ _
theorem YZ(n:Nat): ∀ l:List Ac,B9 n (BV l)
 |[]=>by simp only[BV,List.map_nil,B9]
 |⟨an,ap,ac,⟨gop,gna,gar,gpa,gex,gki⟩,ch⟩::l=>by
  have:=YZ n l;simp only[BV,List.map_cons,B9]at this⊢;refine⟨?_,this⟩;simp only[DF,Fm.cells,List.cons_append,List.nil_append,Bo,Bc,Fk,Do];exact⟨C6 _ _,Df _ _,C6 _ _,EE _ _,El _ _,Gp _ _⟩
theorem Ya(n:Nat): ∀ l:List Du,B9 n (BW l)
 |[]=>by simp only[BW,List.map_nil,B9]
 |⟨an,ap,ac,⟨gop,gna,gar,gpa,gex,gki⟩,⟨kop,kna,kar,kpa,kex,kki⟩,⟨lop,lna,lar,lpa,lex,lki⟩,ch,cb⟩::l=>by
  have:=Ya n l;simp only[BW,List.map_cons,B9]at this⊢;refine⟨?_,this⟩;simp only[DG,Fm.cells,List.cons_append,List.nil_append,Bo,Bc,Fk,Do];exact⟨C6 _ _,Df _ _,C6 _ _,EE _ _,El _ _,Df _ _,C6 _ _,EE _ _,El _ _,Df _ _,C6 _ _,EE _ _,El _ _,Gp _ _,Gp _ _⟩
theorem oO(n:Nat)(H:A0)(d:Dm):AN n H d.cells d.cells:=
 CV Bi (CV (B8 (C6 _ _)) (CV (B8 (C6 _ _)) (CV (B8 (YX _ _)) (CV (B8 (YY _ _)) (CV (B8 (YZ _ _)) (CV (B8 (Ya _ _)) KR))))))
theorem Gt.drop(i:Gt h d seen H):AI (h.next+1) H (.Aj d.cells) (.ptr (h.next+1) 0 0):=by
 obtain⟨h0,g,o1,o2,l,di⟩:=i;obtain⟨gy,Bt,t,c,p,f,a,u,e0,e1,e2,e3,e4,e5,e6⟩:=di;simp only[AI];refine .inr ⟨h.next+1,0,0,7,_,_,rfl,AG _,e0,rfl,?_⟩;exact CV Bi (CV (e1.CD H (C6 _ _)) (CV (e2.CD H (C6 _ _)) (CV (e3.frzR (by omega) (QZ E0 oI _ _ _)) (CV (e4.frzR (by omega) (QZ E1 oJ _ _ _)) (CV (e5.frzR (by omega) (QZ DF oK _ _ _)) (CV (e6.frzR (by omega) (QZ DG oL _ _ _)) KR))))))
theorem oP{c:Int}(hc:AQ c=u):AI n H (.Al [.agg d.cells,AQ c]) (.Al [.agg d.cells,u]):=by
 subst hc;obtain⟨u,hu⟩:=Dv c;rw[hu];unfold AI;refine⟨_,rfl,CV ?_ (CV Bi KR)⟩;unfold AI;exact⟨_,rfl,oO n H d⟩
theorem KS{X:Am}{F:Dm × Int}{c:Int}(hF:F=(Ft,c))(hu:AQ c=u)(g:AH h H):AI h.next (H.set h.next X) (.Al [.agg F.1.cells,AQ F.2]) (.Al [.agg MM,u])/\AH h (H.set h.next X):=by
 subst hF;subst hu;obtain⟨u,hu⟩:=Dv c;simp only[hu];refine⟨?_,g.set (AG _) _⟩;have hn: ∀ (z:Nat)(H:A0),AI h.next H (.A1 z []) (.sc (.slice none 0 0)):=λz H=>by simp only[AI];exact .inr (.inl ⟨trivial,.inr A4⟩)
 unfold AI;refine⟨_,rfl,CV ?_ (CV Bi KR)⟩;unfold AI;exact⟨_,rfl,CV Bi (CV (hn _ _) (CV (hn _ _) (CV (hn _ _) (CV (hn _ _) (CV (hn _ _) (CV (hn _ _) KR))))))⟩
theorem Yb(hok:x.ok)(h:A0):A6 prog 22 [.agg x.cells] h λr h'=>r= .Al [.agg (KP x).1.cells,AQ (KP x).2]/\h'=h:=by
 refine A6.CD Ty.Lp ?_;have hV:=λh:A0=>JM (x:=x) hok h;have hb:=MA hok;generalize hF:KP x=F;unfold KP at hF;cases v:(CJ x 0 0).1 with
 |false=>
  rw[v,A7 (by simp)]at hF;rw[v]at hV
  clear hb;obtain⟨kind,value,line,col,text,kids⟩:=x;simp only[Sx.cells]at hV⊢;refine AD func22 ntmps22 results22 Ty.Lp ?_;refine wt A4 ?_;refine uU yF (hV _) ?_;refine wt yF ?_;exact KS hF.symm rfl ((AH.refl h).new _)
 |true=>
  rw[v,AK rfl]at hF;rw[v]at hV;have hsm:=Kx v;have hnd:=((JO x 0 0 (by omega) (by omega)).1.1 v).2.2;have hdo:=YS hok hsm (by omega);have hO:=λw l=>TE hok hsm (w:=w) (l:=l);generalize hP:Jf x=P at hF hdo;obtain⟨d,c⟩:=P;simp only at hF hdo;unfold Jf at hP;have hFE:¬ c=0->F=(Ft,c):=λhc=>by rw[A7 hc]at hF;exact hF.symm
  obtain⟨kind,value,line,col,text,kids⟩:=x;generalize hD:Br (.mk kind value line col text kids)=D at hP hb hO;cases D with
  |none=>
   simp only[C4]at hP;obtain⟨_,rfl⟩:=hP;simp only[Sx.cells,MU]at hV hb⊢;refine AD func22 ntmps22 results22 Ty.Lp ?_;refine wt A4 ?_;refine uU yT (hV _) ?_;refine wt yT ?_;refine uU yF (hb _) ?_;refine wt yF ?_;exact KS (hFE (by decide)) rfl ((AH.refl h).new _)
  |some wl=>
   obtain⟨w,l⟩:=wl;obtain⟨hlb,_⟩:=hO w l rfl;obtain⟨yk,yv,yl,yc,ys,hkd,r0,q0,q1,ht,hws,hrl⟩:=NI hok hD;simp only at hP;simp only[Sx.cells,NO]at hV hb⊢;cases q2:(w.data.toList==(#[100,101,102,105,110,101]:Array UInt8).toList)with
   |false=>
    have q2':(w.data.toList !=(#[100,101,102,105,110,101]:Array UInt8).toList)=true:=(by simpa[bne]using q2);rw[show A2 w DQ=false from q2]at hP;simp only[AJ,C4]at hP;obtain⟨_,rfl⟩:=hP;generalize Sx.rows kids=R at r0 q0 hV hb⊢;refine AD func22 ntmps22 results22 Ty.Lp ?_;refine wt A4 ?_;replace zz:=Ae yT r0 q0 q2 q2';refine uU zz (hV _) ?_;refine wt zz ?_;replace zz:=Ae yT r0 q0 q2 q2';refine uU zz (hb _) ?_;refine wt zz ?_;exact KS (hFE (by decide)) rfl ((AH.refl h).new _)
   |true=>
    have q2':(w.data.toList !=(#[100,101,102,105,110,101]:Array UInt8).toList)=false:=(by simpa[bne]using q2);rw[show A2 w DQ=true from q2]at hP;simp only[AB]at hP;cases l with
    |nil=>
     simp only[C4]at hP;obtain⟨_,rfl⟩:=hP;have q3:decide (((Sx.rows kids).length:Int)<2)=true:=(by rw[hrl];simp);generalize Sx.rows kids=R at r0 q0 q3 hV hb⊢;refine AD func22 ntmps22 results22 Ty.Lp ?_;refine wt A4 ?_;replace zz:=Ah yT r0 q0 q2 q2' q3;refine uU zz (hV _) ?_;refine wt zz ?_;replace zz:=Ah yT r0 q0 q2 q2' q3;refine uU zz (hb _) ?_;refine wt zz ?_;exact KS (hFE (by decide)) rfl ((AH.refl h).new _)
    |cons n secs=>
     simp only at hP;have q3:decide (((Sx.rows kids).length:Int)<2)=false:=(by rw[hrl];simp;omega);have q4:((1:Int)<((Sx.rows kids).length:Int))=True:=Di (by rw[hrl];simp;omega);have q5:(2:Int)<=((Sx.rows kids).length:Int):=(by rw[hrl];simp;omega);have r1:(Sx.rows kids)[1]? =some n.cells:=(by rw[hkd];exact Sx.CG rfl);have ht2:List.take (((Sx.rows kids).length:Int)-2).toNat (List.drop 2 (Sx.rows kids))=Sx.rows secs:=by
      rw[hkd];simp only[Sx.rows,List.drop_succ_cons,List.drop_zero,List.length_cons];rw[List.take_of_length_le (by omega)]
     have hsl:(Sx.rows secs).length=secs.length:=Sx.B3 secs;have hno:=hlb n (by simp);have hsb: ∀ y∈secs,y.ok/\y.small:=λy hy=>hlb y (by simp[hy]);have hsn:Sx.Aq secs<=4096:=by
      rw[hkd]at hnd;simp only[Sx.nodes,Sx.Aq]at hnd;omega
     have hsl2:secs.length<=4096:=ER (YV secs) hsn;have hn:=λh:A0=>nQ hno.1 h;have hnk:=YR (want:=CU) hno.1;generalize hR:Sx.rows kids=R at r0 q0 q3 q4 q5 r1 ht2 hV hb⊢;clear hD hO hkd hok hsm ht hrl hlb hR hnd;generalize HR n CU=N at hP hn hnk;obtain⟨na,cn⟩:=N;simp only at hP hn hnk;obtain⟨nk,nv,nl,nc,nt,ns⟩:=n;simp only[Sx.cells]at r1 hn;have n1:(h.next=h.next+1)=False:=BB (by omega);cases hcn:cn==0 with
     |false=>
      rw[hcn]at hP;simp only[AJ,C4]at hP;obtain⟨_,rfl⟩:=hP;have er:AQ cn=An cn:=(by simp only[AQ,hcn,AJ]);rw[er]at hn;simp only[An]at hn;refine AD func22 ntmps22 results22 Ty.Lp ?_;refine wt A4 ?_;replace zz:=Ah yT r0 q0 q2 q2' q3;refine uU zz (hV _) ?_;refine wt zz ?_;replace zz:=Ah yT r0 q0 q2 q2' q3;refine uU zz (hb _) ?_;replace zz:=BJ yT r0 q0 q2 q2' q3 q4 r1;refine wt zz ?_;refine uU (AU q4 r1 n1) (hn _) ?_;refine wt n1 ?_;exact KS (hFE (by simpa using hcn)) er ((((AH.refl h).new _).new _).set (by omega) _)
     |true=>
      rw[hcn]at hP;simp only[AB]at hP;have er:AQ cn= .sc .nilIface:=(by simp only[AQ,hcn,AB]);rw[er]at hn;refine AD func22 ntmps22 results22 Ty.Lp ?_;refine wt A4 ?_;replace zz:=Ah yT r0 q0 q2 q2' q3;refine uU zz (hV _) ?_;refine wt zz ?_;replace zz:=Ah yT r0 q0 q2 q2' q3;refine uU zz (hb _) ?_;replace zz:=BJ yT r0 q0 q2 q2' q3 q4 r1;refine wt zz ?_;refine uU (AU q4 r1 n1) (hn _) ?_;refine xG 9 n1 ?_;refine⟨?_⟩;refine Cf (λS H=>S 1= .Aj [qK kind,qK value,qK line,qK col,A3 text,.A1 6 R]/\S 2= .ptr h.next 0 0/\S 4= .ptr (h.next+1) 0 0/\S 6= .mp (h.next+2)/\Gt h (GB na) [] H) ?_ ?_
      ·refine ⟨sq A4,sq A4,sq A4,by simp only[Ty.w,simprocAttr]<;>rfl,⟨(((h.new (.arr 7 [MM])).new (.arr 7 [MM])).set (h.next+1) (.arr 7 [[A3 na,.sc (.slice none 0 0),.sc (.slice none 0 0),.sc (.slice none 0 0),.sc (.slice none 0 0),.sc (.slice none 0 0),.sc (.slice none 0 0)]])).new (.map []),((((AH.refl h).new _).new _).set (by omega) _).new _,?_,?_,?_,⟨⟨AG _,λj _ _=>rfl⟩,⟨by simp only[A0.new,A0.set];omega,by simp only[A0.new,A0.set];omega⟩,_,_,_,_,_,_,?_,.inr ⟨rfl,rfl⟩,.inr ⟨rfl,rfl⟩,Tl.nil,Tl.nil,Tl.nil,Tl.nil⟩⟩⟩
       ·rw [E4 (by simp only[A0.new,A0.set];omega),Aw (by omega),E4 (by simp only[A0.new];omega)];simp only[A0.new,AO]
       ·simp only[A0.new,A0.set,AO];rfl
       ·simp only[A0.new,A0.set];omega
       ·rw [E4 (by simp only[A0.new,A0.set];omega),D7];rfl
      clear hV hb hn r0 q0 q2 q2' q3 q4 r1;rintro S H ⟨s1,s2,s4,s6,hI⟩;replace zz:=BF s1 s2 s4 s6 q5 ht2 hsl @CW @CX;refine wt zz ?_;refine By (λm S H=>S 2= .ptr h.next 0 0/\S 4= .ptr (h.next+1) 0 0/\S 6= .mp (h.next+2)/\S 53= .A1 6 (Sx.rows secs)/\S 54= qK secs.length/\ ∃ (k:Nat)(e:Dm)(seen:List ByteArray),S 55= qK k/\k<=secs.length/\m=secs.length-k/\Gt h e seen H/\Gh e (Sx.Aq (secs.drop k))/\Je e seen (secs.drop k)=(d,c)) secs.length ?_ ?_
      ·simp only[Ty.w,simprocAttr,s2,s4,s6];first
        |exact⟨0,_,_,rfl,Bj _,rfl,hI,by rw[List.drop_zero];exact TF hnk (by omega),by rw[List.drop_zero];exact hP⟩
        |exact⟨trivial,0,_,_,rfl,Bj _,rfl,hI,by rw[List.drop_zero];exact TF hnk (by omega),by rw[List.drop_zero];exact hP⟩
      (try clear zz);clear s1 s2 s4 s6 hI hP q5 ht2 S H;rintro m S H ⟨s2,s4,s6,sV,sL,k,e,seen,sI,hk,rfl,hI,hek,hP⟩;by_cases hlt:k<secs.length
      ·have hd:decide ((k:Int)<(secs.length:Int))=true:=(by simp;omega);have w7:IntKind.i64.wrap ((k:Int)+1)=((k+1:Nat):Int):=(by rw[BM (by omega) (by omega)];omega);obtain⟨y,hx⟩: ∃ y,secs[k]? =some y:=⟨_,List.getElem?_eq_getElem hlt⟩;have hr:=Sx.CG hx;obtain⟨hyo,hym⟩:=hsb y (List.mem_of_getElem? hx);rw[Ca hx]at hP hek;simp only[Sx.Aq]at hek;clear hx;have hby:=MA hyo;have hse:=λ{h0:A0}{id:Nat} w rest (hD:Br y=some (w,rest))=>o7 (h0:=h0) (id:=id) (d:=e) hD hyo hym (by have:=hek.Kb.1;omega) (by have:=hek.Kd.1;omega) (by have:=hek.Ke.1;omega) (by have:=hek.LY.1;omega);have hsk:=λw rest (hD:Br y=some (w,rest))=>YP (n:=Sx.Aq (secs.drop (k+1))) (d:=e) hyo hym hD (by rw[TU];exact hek);rw[Je]at hP;obtain⟨vk,vv,vl,vc,vt,vs⟩:=y;simp only[Sx.cells]at hr hby hse;replace zz:=BJ s2 s4 s6 sV sL sI hd hr;refine xH 12 zz ?_;refine⟨?_⟩;refine H7 8 rfl (sq A4) (λn H=>FZ n H (.mk vk vv vl vc vt vs)) ?_;refine Cf (λS H=>S 2= .ptr h.next 0 0/\S 4= .ptr (h.next+1) 0 0/\S 6= .mp (h.next+2)/\S 53= .A1 6 (Sx.rows secs)/\S 54= qK secs.length/\S 55= qK k/\S 8= .Aj [qK vk,qK vv,qK vl,qK vc,A3 vt,.A1 6 (Sx.rows vs)]/\Gt h e seen H) ⟨sq s2,sq s4,sq s6,sq sV,sq sL,sq sI,by simp only[Ty.w,simprocAttr,Sx.cells],hI.tmp _ _⟩ ?_;clear s2 s4 s6 sV sL sI hI hr hd;rintro S H ⟨s2,s4,s6,sV,sL,sI,s8,hI⟩;obtain⟨hg,o1,o2⟩:=hI.facts;unfold FU at hP;generalize hD:Br (.mk vk vv vl vc vt vs)=D at hP hby hse hsk;cases D with
       |none=>
        simp only at hP;have hP2:(e,(2:Int))=(d,c):=hP;simp only[C4]at hP2;obtain⟨_,rfl⟩:=hP2;simp only[MU]at hby;refine wt s8 ?_;refine uU (uu s8 yF) (hby _) ?_;refine wt (AU s2 o1 yF) ?_;exact KS (hFE (by decide)) rfl hg
       |some wr=>
        obtain⟨w',rest'⟩:=wr;simp only at hP;simp only[NO]at hby;obtain⟨_,_,_,_,_,_,r0,q0,_,_,_,_⟩:=NI hyo hD;have hse:=λ{h0:A0}{id:Nat}=>hse (h0:=h0) (id:=id) w' rest' rfl;have hsk:=hsk w' rest' rfl;have hct:=λh:A0=>nY (h:=h) (l:=MI) (s:=w') (by decide);simp only[oH]at hct;have hmf:=YT w' seen.reverse;rw[List.any_reverse]at hmf;have hid:=hI.decl w';generalize hdc:MI.any (A2 w')=dc at hP hct;generalize hsa:seen.any (A2 w')=sa at hP hmf;refine wt s8 ?_;refine uU (uu s8 yT) (hby _) ?_;replace zz:=Ae s2 s8 r0 q0 yT;refine xH 15 zz ?_;refine⟨?_⟩;refine Cf (λS H=>S 2= .ptr h.next 0 0/\S 4= .ptr (h.next+1) 0 0/\S 6= .mp (h.next+2)/\S 53= .A1 6 (Sx.rows secs)/\S 54= qK secs.length/\S 55= qK k/\S 8= .Aj [qK vk,qK vv,qK vl,qK vc,A3 vt,.A1 6 (Sx.rows vs)]/\S 9=A3 w'/\Gt h e seen H/\AH h H/\H.obj h.next=some (.arr 7 [MM])/\H.obj (h.next+2)=some (.map (Ig seen.reverse))) ⟨sq s2,sq s4,sq s6,sq sV,sq sL,sq sI,sq s8,sq A4,hI,hg,o1,o2⟩ ?_;(try clear zz);clear s2 s4 s6 sV sL sI s8 hI hid hg o1 o2 r0 q0 S H hby;rintro S H ⟨s2,s4,s6,sV,sL,sI,s8,s9,hI,hg,o1,o2⟩;have hid:=hI.decl w';refine D0 (λS H=>S 2= .ptr h.next 0 0/\S 4= .ptr (h.next+1) 0 0/\S 6= .mp (h.next+2)/\S 53= .A1 6 (Sx.rows secs)/\S 54= qK secs.length/\S 55= qK k/\S 8= .Aj [qK vk,qK vv,qK vl,qK vc,A3 vt,.A1 6 (Sx.rows vs)]/\Gt h e (bif dc then w'::seen else seen) H/\(dc&&sa)=false) ?_ ?_
        ·cases dc with
         |false=>
          refine wt s9 ?_;refine uU s9 (hct _) ?_;replace zz:=Ad s2 s4 s6 sV sL sI s8;refine wt zz ?_;first|exact hI|exact⟨s2,s4,s6,sV,sL,sI,s8,hI,rfl⟩|exact⟨hI,rfl⟩|exact⟨sq s2,sq s4,sq s6,sq sV,sq sL,sq sI,sq s8,hI,rfl⟩
         |true=>
          cases sa with
          |true=>
           simp only[AB]at hP hmf;have hP2:(e,(4:Int))=(d,c):=hP;simp only[C4]at hP2;obtain⟨_,rfl⟩:=hP2;refine wt s9 ?_;refine uU s9 (hct _) ?_;replace zz:=Ah s2 s6 s9 o1 o2 hmf;refine wt zz ?_;exact KS (hFE (by decide)) rfl hg
          |false=>
           simp only[AB,AJ]at hP hmf;have hmp:=YU (w:=w') (l:=seen.reverse) (by rw[List.any_reverse];exact hsa);refine wt s9 ?_;refine uU s9 (hct _) ?_;replace zz:=AY s2 s4 s6 s9 sV sL sI s8 o1 o2 hmf hmp;refine wt zz ?_;first|exact hid|exact⟨hid,rfl⟩|exact⟨sq s2,sq s4,sq s6,sq sV,sq sL,sq sI,sq s8,hid,rfl⟩
        ·(try clear zz);clear s2 s4 s6 sV sL sI s8 s9 hI hg o1 o2 hid hmf hct S H;rintro S H ⟨s2,s4,s6,sV,sL,sI,s8,hI,hnn⟩;have hP2:(bif (D9 e w' rest' (.mk vk vv vl vc vt vs)).2==0 then Je (D9 e w' rest' (.mk vk vv vl vc vt vs)).1 (bif dc then w'::seen else seen) (secs.drop (k+1))else((D9 e w' rest' (.mk vk vv vl vc vt vs)).1,(D9 e w' rest' (.mk vk vv vl vc vt vs)).2))=(d,c):=by
          cases dc with
          |false=>exact hP
          |true=>
           cases sa with
           |false=>exact hP
           |true=>simp at hnn
         clear hP;generalize(bif dc then w'::seen else seen)=seen2 at hI hP2;generalize D9 e w' rest' (.mk vk vv vl vc vt vs)=A at hP2 hse hsk;obtain⟨e2,c2⟩:=A;simp only at hP2 hse hsk;obtain⟨h0,gg,p1,p2,pl,di⟩:=hI;refine wt (uu s4 s8) ?_;refine RS (hse _ di) (by simp only[Ty.w,simprocAttr,s4,s8];try rfl) ?_;rintro r h2 ⟨rfl,di2⟩;clear hse di;have hI2:Gt h e2 seen2 h2:=⟨h0,gg,p1,p2,pl,di2⟩;obtain⟨hg2,o12,_⟩:=hI2.facts;simp only[Ty.w,simprocAttr,Ty.AX];cases hc2:c2==0 with
         |false=>
          have er2:AQ c2=An c2:=(by simp only[AQ,hc2,AJ]);rw[hc2]at hP2;simp only[AJ,C4]at hP2;obtain⟨_,rfl⟩:=hP2;simp only[er2,An];refine wt (uu s2 o12) ?_;exact KS (hFE (by simpa using hc2)) er2 hg2
         |true=>
          have er2:AQ c2= .sc .nilIface:=(by simp only[AQ,hc2,AB]);rw[hc2]at hP2;simp only[AB]at hP2;simp only[er2];replace zz:=Ad s2 s4 s6 sV sL sI w7;refine wt zz ?_;first
           |exact⟨secs.length-(k+1),by omega,k+1,e2,seen2,rfl,by omega,rfl,hI2,hsk,hP2⟩
           |exact⟨secs.length-(k+1),by omega,sq s2,sq s4,sq s6,sq sV,sq sL,k+1,e2,seen2,sq A4,by omega,rfl,hI2,hsk,hP2⟩
      ·have hd:decide ((k:Int)<(secs.length:Int))=false:=(by simp;omega);rw[List.drop_eq_nil_of_le (by omega)]at hP;simp only[Je,C4]at hP;obtain⟨rfl,rfl⟩:=hP;rw[AK rfl]at hF;have hW:=λh:A0=>Xi hdo.ok hdo.sm (Xv hdo.ok hdo.sm) h;have e0:(GO e&&(CJ (H9 e) 0 0).1)=HW e:=rfl;rw[e0]at hW;clear e0;generalize HW e=wb at hF hW;generalize H9 e=X at hW;obtain⟨xk,xv,xl,xc,xt,xs⟩:=X;simp only[Ho,Sx.cells,Sx.rows,An]at hW;obtain⟨hg,o1,_⟩:=hI.facts;replace zz:=Ae s2 s4 sL sI hd;refine xH 23 zz ?_;refine⟨?_⟩;refine Jz (h.next+1) [(4,.Aj e.cells)] rfl (by obtain⟨h0,gg,p1,p2,pl,di⟩:=hI;have:=di.grow.le;omega) ?_ ?_
       ·intro x hx;simp only[List.mem_cons,List.not_mem_nil,FF]at hx;subst hx;simp only[Ty.w,simprocAttr,s4];exact hI.drop
       refine Cf (λS H=>S 2= .ptr h.next 0 0/\S 4= .Aj e.cells/\h.next<H.next/\AH h H/\H.obj h.next=some (.arr 7 [MM])) ⟨by simp only[DT,Ty.w,simprocAttr,s2],by simp only[DT,Ty.w,simprocAttr],by obtain⟨h0,gg,p1,p2,pl,di⟩:=hI;have:=di.grow.le;simp only[Dz];omega,⟨hg.le,λj hj=>by simp only[Dz];rw[AK (by omega)];exact hg.B1 j hj⟩,by simp only[Dz];rw[AK (by omega)];exact o1⟩ ?_;clear s2 s4 s6 sV sL sI hI hg o1 hd hdo hek;rintro S H ⟨s2,s4,hlt2,hg,o1⟩;have hft:=λ(n:Nat)(H:A0)(c:Int)(u:PV)(hc:AQ c=u)=>oP (n:=n) (H:=H) (d:=e) (c:=c) hc;obtain⟨dn,dt,dc,dp,df,da,dd⟩:=e;simp only[Dm.cells]at s4 hW hft;have n2:(h.next=H.next)=False:=BB (by omega);cases wb with
       |false=>
        rw[A7 (by simp)]at hF;simp only[BQ,AP]at hW;refine wt s4 ?_;refine uU (uu s2 s4) (hW _) ?_;refine wt (AU s2 o1 n2) ?_;exact KS hF.symm rfl ((hg.new _).set hg.le _)
       |true=>
        rw[AK rfl]at hF;simp only[AO]at hW;subst hF;refine wt s4 ?_;refine uU (uu s2 s4) (hW _) ?_;replace zz:=AW s2 s4 o1 n2;refine wt zz ?_;exact⟨hft _ _ 0 _ rfl,((hg.new _).set hg.le _).set (AG _) _⟩
set_option maxHeartbeats 4000000
def I7:Nat->ByteArray
 |0=>Ds
 |1=>E7
 |2=>EF
 |_=>EG
def KT(d:Dm):Nat->List Sx
 |0=>Aa d.types
 |1=>Aa d.constants
 |2=>d.Ay.map Cq
 |_=>d.Au.map Cv
def Ot(d:Dm)(k:Nat):Sx:=AC (A5 (I7 k)::KT d k)
def HZ(d e:Dm):Nat->Dm
 |0=>{e with types:=d.types}
 |1=>{e with constants:=d.constants}
 |2=>{e with Ay:=d.Ay}
 |_=>{e with Au:=d.Au}
def Ji(d:Dm):List Nat:=[0,1,2,3].filter λk=>!(KT d k).isEmpty
theorem oQ: ∀ a<4, ∀ b<4,a≠b->A2 (I7 a) (I7 b)=false:=by decide
theorem oR: ∀ a<4,MI.any (A2 (I7 a))=true:=by decide
theorem oS{e:Dm}{k:Nat}(hd:GO d=true)(hk:k<4)(hs:seen.any (A2 (I7 k))=false)(h2:k=2->e.Ay=[])(h3:k=3->e.Au=[]):
  FU e seen (Ot d k)=(HZ d e k,I7 k::seen,0):=by
 unfold Ot;rw[nM (oR k hk) hs];unfold GO at hd;simp only[AV]at hd;obtain⟨⟨⟨⟨⟨⟨_,t⟩,c⟩,p⟩,f⟩,_⟩,_⟩:=hd
 match k,hk with
 |0,_=>
  unfold D9;simp only[I7,KT,HZ,show A2 Ds Gq=false by decide,Em,AB,AJ,Oj t]
 |1,_=>
  unfold D9;simp only[I7,KT,HZ,show A2 E7 Gq=false by decide,show A2 E7 Ds=false by decide,Em,AB,AJ,Oj c]
 |2,_=>
  unfold D9;simp only[I7,KT,HZ,show A2 EF Gq=false by decide,show A2 EF Ds=false by decide,show A2 EF E7=false by decide,Em,AB,AJ,h2 rfl,Y2 d.Ay [] p,List.nil_append]
 |3,_=>
  unfold D9;simp only[I7,KT,HZ,show A2 EG Gq=false by decide,show A2 EG Ds=false by decide,show A2 EG E7=false by decide,show A2 EG EF=false by decide,Em,AB,AJ,h3 rfl,Y3 d.Au [] f,List.nil_append]
theorem oT(d e:Dm){k:Nat}(h:k≠2):(HZ d e k).Ay=e.Ay:=by
 match k with
 |0=>rfl
 |1=>rfl
 |2=>exact absurd rfl h
 |k+3=>rfl
theorem oU(d e:Dm){k:Nat}(hk:k<4)(h:k≠3):(HZ d e k).Au=e.Au:=by
 match k,hk with
 |0,_=>rfl
 |1,_=>rfl
 |2,_=>rfl
 |3,_=>exact absurd rfl h
theorem Yc{d:Dm}(hd:GO d=true): ∀ (ks:List Nat)(e:Dm)(seen:List ByteArray),(∀ k∈ks,k<4)->ks.Nodup->(∀ k∈ks,seen.any (A2 (I7 k))=false)->(2∈ks->e.Ay=[])->(3∈ks->e.Au=[])-> ∃ s,Fv e seen (ks.map (Ot d))=(ks.foldl (HZ d) e,s,0)
 |[],e,seen,_,_,_,_,_=>⟨seen,rfl⟩
 |k::ks,e,seen,hk,hn,hs,h2,h3=>by
  have hk0:=hk k (by simp);have hst:=oS hd hk0 (hs k (by simp)) (λe2=>h2 (by simp[e2])) (λe3=>h3 (by simp[e3]));obtain⟨hn1,hn2⟩:=List.nodup_cons.1 hn;obtain⟨s,h⟩:=Yc hd ks (HZ d e k) (I7 k::seen) (λj hj=>hk j (by simp[hj])) hn2 (λj hj=>by
    have hne:j≠k:=λe=>hn1 (e ▸ hj);simp only[List.any_cons,oQ j (hk j (by simp[hj])) k hk0 hne,hs j (by simp[hj]),GD])
   (λhm => by
    have hne:k≠2:=λe=>hn1 (e ▸ hm);rw[oT d e hne];exact h2 (by simp[hm]))
   (λhm => by
    have hne:k≠3:=λe=>hn1 (e ▸ hm);rw[oU d e hk0 hne];exact h3 (by simp[hm]))
  refine⟨s,?_⟩;simp only[List.map_cons,Fv,hst,DC,AB,h,List.foldl_cons]
theorem Yd{d:Dm}: ∀ (ks:List Nat)(e:Dm),(∀ k∈ks,k<4)->ks.foldl (HZ d) e=⟨e.name,if 0∈ks then d.types else e.types,if 1∈ks then d.constants else e.constants,if 2∈ks then d.Ay else e.Ay,if 3∈ks then d.Au else e.Au,e.Av,e.B0⟩
 |[],e,_=>by simp
 |k::ks,e,hk=>by
  rw[List.foldl_cons,Yd ks _ (λj hj=>hk j (by simp[hj]))];have h0:=hk k (by simp)
  match k,h0 with
  |0,_=>simp[HZ]
  |1,_=>simp[HZ]
  |2,_=>simp[HZ]
  |3,_=>simp[HZ]
theorem TG(d:Dm): ∀ k∈Ji d,k<4:=by
 intro k hk;have:=(List.mem_filter.1 hk).1;simp at this;omega
theorem oV(d:Dm):(Ji d).Nodup:=List.Nodup.sublist List.filter_sublist (by decide)
theorem Qa{k:Nat}(hk:k<4):k ∉ Ji d->(KT d k).isEmpty=true:=by
 intro h;cases q:(KT d k).isEmpty with
 |true=>rfl
 |false=>exact absurd (List.mem_filter.2 ⟨by match k,hk with|0,_=>simp|1,_=>simp|2,_=>simp|3,_=>simp,by rw[q];try rfl⟩) h
def gL(d:Dm):List Sx:=(Ji d).map (Ot d)
def aL(d:Dm):List Sx:=d.Av.map Eo++d.B0.map Ep
theorem Qb(L M:List Sx)(kw:ByteArray)(ks:List Sx):CK (L++M) kw ks=L++CK M kw ks:=by
 unfold CK;cases ks.isEmpty<;>simp
theorem oW(d:Dm):Ob d=A5 DQ::AC [A5 CU,A5 d.name]::(gL d++aL d):=by
 have e:CK (CK (CK (CK [] Ds (Aa d.types)) E7 (Aa d.constants)) EF (d.Ay.map Cq)) EG (d.Au.map Cv)=gL d:=by
  unfold gL Ji CK;simp only[Ot,List.filter_cons,List.filter_nil,KT,I7];cases(Aa d.types).isEmpty<;>cases(Aa d.constants).isEmpty<;>cases(d.Ay.map Cq).isEmpty<;>cases(d.Au.map Cv).isEmpty<;>rfl
 unfold Ob aL;rw[show[A5 DQ,AC [A5 CU,A5 d.name]]=[A5 DQ,AC [A5 CU,A5 d.name]]++[]from rfl,Qb,Qb,Qb,Qb,e];simp only[List.append_assoc,List.cons_append,List.nil_append]
def MN(x:Sx):Bool:=match BS x with
 |[]=>false
 |k::_=>A2 (Af k) Cg||A2 (Af k) D8
theorem oa(hok:x.ok)(h:A0):A6 prog 36 [.agg x.cells] h λr h'=>r= .sc (.bool (MN x))/\h'=h:=by
 generalize hF:MN x=F;obtain⟨kind,value,line,col,text,kids⟩:=x;simp only[MN,BS]at hF;simp only[Sx.ok]at hok;have hl:=Sx.B3 kids;simp only[Sx.cells];cases kids with
 |nil=>
  subst hF;have hl0:((Sx.rows []).length:Int)=0:=rfl;have d0:decide ((0:Int)>0)=false:=by decide
  refine AD func36 ntmps36 results36 Ty.Pj ?_;exact wz (uu hl0 d0)
 |cons k ks=>
  have hb:ks.length+1<=AF:=hok.2.2.2.1;have hl0:((Sx.rows (k::ks)).length:Int)=ks.length+1:=by rw[hl];simp
  have d0:decide ((ks.length:Int)+1>0)=true:=Ha (by omega);have d1:(0:Int)<ks.length+1:=by omega
  have hg:(Sx.rows (k::ks))[0]? =some k.cells:=rfl;obtain⟨ki,va,li,co,te,kk⟩:=k;simp only[Af]at hF;simp only[Sx.cells]at hg;generalize Sx.rows (Sx.mk ki va li co te kk::ks)=R at hl0 hg
  clear hl hok;cases qa:(te.data.toList==(#[58,97,99,116,105,111,110]:Array UInt8).toList)with
  |true=>
   rw[show A2 te Cg=true from qa,Dh]at hF;subst hF;refine AD func36 ntmps36 results36 Ty.Pj ?_;replace zz:=Ae hl0 d0 d1 hg qa;exact wz zz
  |false=>
   rw[show A2 te Cg=false from qa,Cx]at hF;cases qb:(te.data.toList==(#[58,100,117,114,97,116,105,118,101,45,97,99,116,105,111,110]:Array UInt8).toList)with
   |true=>
    rw[show A2 te D8=true from qb]at hF;subst hF;refine AD func36 ntmps36 results36 Ty.Pj ?_;replace zz:=Ah hl0 d0 d1 hg qa qb;exact wz zz
   |false=>
    rw[show A2 te D8=false from qb]at hF;subst hF;refine AD func36 ntmps36 results36 Ty.Pj ?_;replace zz:=Ah hl0 d0 d1 hg qa qb;exact wz zz
theorem oc(d:Dm): ∀ x∈aL d,MN x=true:=by
 intro x hx;unfold aL at hx;rcases List.mem_append.1 hx with hx|hx
 ·obtain ⟨a,_,rfl⟩:=List.mem_map.1 hx;obtain⟨ks,e⟩:=nN a;rw[e];try rfl
 ·obtain ⟨a,_,rfl⟩:=List.mem_map.1 hx;obtain⟨ks,e⟩:=nO a;rw[e];try rfl
theorem od(d:Dm): ∀ x∈gL d,MN x=false:=by
 intro x hx;unfold gL at hx;obtain⟨k,hk,rfl⟩:=List.mem_map.1 hx;have:=TG d k hk
 match k,this with
 |0,_=>rfl
 |1,_=>rfl
 |2,_=>rfl
 |3,_=>rfl
theorem Qc: ∀ l:List Sx,l.length<=Sx.Aq l
 |[]=>by simp[Sx.Aq]
 |k::l=>by
  have:=Qc l;have:=Sx.HG k;simp only[Sx.Aq,List.length_cons];omega
theorem Ye{x:Sx}: ∀ {l:List Sx},x∈l->x.nodes<=Sx.Aq l
 |k::l,h=>by
  simp only[Sx.Aq];rcases List.mem_cons.1 h with rfl|h
  ·omega
  ·have:=Ye h;omega
theorem oe{A:List Sx}(t:Tl h 0 6 p (Sx.rows A)):AI 0 h (.A1 6 (Sx.rows A)) p:=by
 simp only[AI];rcases t with⟨h1,h2⟩|⟨id,h1,h2,rfl,ho⟩
 ·exact .inr (.inl ⟨h1,h2.symm⟩)
 ·refine .inr (.inr ⟨id,0,_,_,rfl,h1,ho,by omega,?_⟩);rw[List.drop_zero,List.take_of_length_le (by omega)];exact IM 0 h A
end Go.Proofs.YtblgchkahpgdjaaGreat
