/- What the claim rests on, part 16: the abstract machine, contracts of the functions, plain data. -/
import Derived.Test.YtblgchkahpgdjaaGreatZw15
set_option linter.unusedVariables false
set_option linter.unusedSimpArgs false
set_option linter.unusedSectionVars false
namespace Go.Proofs.YtblgchkahpgdjaaGreat
open Go.AM Go.Proofs.Tryz
set_option maxHeartbeats 8000000
set_option maxRecDepth 20000
theorem cf{d:Dm}(hok:d.ok)(h:A0):AA prog 48 [.agg d.cells] h λr h'=>r= .sc (.bool (GA d))/\h'=h:=by
 refine AA.quiet Ty.RB ?_;obtain⟨dn,dt,dc,dp,df,da,dd⟩:=d;have hns: ∀ s:ByteArray,s.size<=AE-> ∀ h:A0,AA prog 78 [A1 s] h λr h'=>r= .sc (.bool (Ak s))/\h'=h:=λs hs h=>Fc (by unfold AE at hs;omega);have hc1:=hns dn hok.name;have hc2:=λh:A0=>Iv (v:=false) hok.types.1 hok.types.2 h;have hc3:=λh:A0=>Iv (v:=false) hok.constants.1 hok.constants.2 h;simp only at hc1 hc2 hc3;generalize hF:GA ⟨dn,dt,dc,dp,df,da,dd⟩=F;unfold GA at hF;simp only at hF;generalize Ak dn=b1 at hc1 hF;generalize dt.all (Cy false)=b2 at hc2 hF;generalize dc.all (Cy false)=b3 at hc3 hF;simp only[Dm.cells];refine AN func48 ntmps48 results48 Ty.RB ?_;repeat'(first|refine AI λK hK=>?_|refine uR A2 ?_|(refine uN hK ?_;clear hK)|apply zI)
 refine uU A2 (hc1 _) ?_;cases b1 with
 |false=>
  subst hF;repeat'(first|refine AI λK hK=>?_|refine uR yF ?_|refine uT yF ?_|(with_reducible refine GM (λhb=>?_) (λhb=>?_)<;>(try simp only[GD]at hb)<;>(try simp only[hb,AC,AD,Cd,Cb, ↓reduceIte])<;>(try simp only[BI,simprocAttr]at hb)<;>(try(exfalso;omega)))|(refine uN hK ?_;clear hK)|apply zI)
  all_goals first|exact AL.refl _|exact⟨rfl,AL.refl _⟩
 |true=>
  repeat'(first|(with_reducible refine GM (λhb=>?_) (λhb=>?_)<;>(try simp only[GD]at hb)<;>(try simp only[hb,AC,AD,Cd,Cb, ↓reduceIte])<;>(try simp only[BI,simprocAttr]at hb)<;>(try(exfalso;omega)))|apply zI)
  refine uU yT (hc2 _) ?_;cases b2 with
  |false=>
   subst hF;(repeat'(first|refine AI λK hK=>?_|refine uR yF ?_|refine uT yF ?_|(with_reducible refine GM (λhb=>?_) (λhb=>?_)<;>(try simp only[GD]at hb)<;>(try simp only[hb,AC,AD,Cd,Cb, ↓reduceIte])<;>(try simp only[BI,simprocAttr]at hb)<;>(try(exfalso;omega)))|(refine uN hK ?_;clear hK)|apply zI));all_goals first|exact AL.refl _|exact⟨rfl,AL.refl _⟩
  |true=>
   (repeat'(first|(with_reducible refine GM (λhb=>?_) (λhb=>?_)<;>(try simp only[GD]at hb)<;>(try simp only[hb,AC,AD,Cd,Cb, ↓reduceIte])<;>(try simp only[BI,simprocAttr]at hb)<;>(try(exfalso;omega)))|apply zI));refine uU yT (hc3 _) ?_;cases b3 with
   |false=>
    subst hF;(repeat'(first|refine AI λK hK=>?_|refine uR yF ?_|refine uT yF ?_|(refine uN hK ?_;clear hK)|apply zI));all_goals first|exact AL.refl _|exact⟨rfl,AL.refl _⟩
   |true=>
    simp only[Ah]at hF;(repeat'(first|with_reducible refine KB 3 ?_|refine uK ?_|refine Aw yT ?_|(refine uN hK ?_;clear hK)|apply zI));refine⟨?_⟩;refine C6 (λS H=>S 1= .cptr [A1 dn,.imm 2 (A7 dt),.imm 2 (A7 dc),.imm 2 (Az dp),.imm 4 (Av df),.imm 10 (B0 da),.imm 23 (B1 dd)]/\AL h H) ⟨sq A2,AL.refl h⟩ ?_;clear hc1 hc2 hc3 hns;rintro S H ⟨s1,hg⟩;refine CF (λS H=>S 1= .cptr [A1 dn,.imm 2 (A7 dt),.imm 2 (A7 dc),.imm 2 (Az dp),.imm 4 (Av df),.imm 10 (B0 da),.imm 23 (B1 dd)]/\AL h H/\dp.all GY=true) (cX hok rfl (λhf S H e g=>?_) s1 hg) ?_
    ·rw [hf]at hF;have hF:F=false:=(by rw[← hF]<;>simp);subst hF;simp only[Ty.w,simprocAttr,e];all_goals first|exact g|exact⟨rfl,g⟩
    clear s1 hg;rintro S H ⟨s1,hg,e1⟩;rw[e1]at hF;(try simp only[Ah]at hF);clear e1;refine CF (λS H=>S 1= .cptr [A1 dn,.imm 2 (A7 dt),.imm 2 (A7 dc),.imm 2 (Az dp),.imm 4 (Av df),.imm 10 (B0 da),.imm 23 (B1 dd)]/\AL h H/\df.all FI=true) (cY hok rfl (λhf S H e g=>?_) s1 hg) ?_
    ·rw [hf]at hF;have hF:F=false:=(by rw[← hF]<;>simp);subst hF;simp only[Ty.w,simprocAttr,e];all_goals first|exact g|exact⟨rfl,g⟩
    clear s1 hg;rintro S H ⟨s1,hg,e1⟩;rw[e1]at hF;(try simp only[Ah]at hF);clear e1;refine CF (λS H=>S 1= .cptr [A1 dn,.imm 2 (A7 dt),.imm 2 (A7 dc),.imm 2 (Az dp),.imm 4 (Av df),.imm 10 (B0 da),.imm 23 (B1 dd)]/\AL h H/\da.all Dy=true) (cZ hok rfl (λhf S H e g=>?_) s1 hg) ?_
    ·rw [hf]at hF;have hF:F=false:=(by rw[← hF]<;>simp);subst hF;simp only[Ty.w,simprocAttr,e];all_goals first|exact g|exact⟨rfl,g⟩
    clear s1 hg;rintro S H ⟨s1,hg,e1⟩;rw[e1]at hF;(try simp only[Ah]at hF);clear e1;refine CF (λS H=>S 1= .cptr [A1 dn,.imm 2 (A7 dt),.imm 2 (A7 dc),.imm 2 (Az dp),.imm 4 (Av df),.imm 10 (B0 da),.imm 23 (B1 dd)]/\AL h H/\dd.all DY=true) (cd hok rfl (λhf S H e g=>?_) s1 hg) ?_
    ·rw [hf]at hF;have hF:F=false:=(by rw[← hF]<;>simp);subst hF;simp only[Ty.w,simprocAttr,e];all_goals first|exact g|exact⟨rfl,g⟩
    clear s1 hg;rintro S H ⟨s1,hg,e1⟩;rw[e1]at hF;(try simp only[Ah]at hF);clear e1;subst hF;(repeat'(first|refine AI λK hK=>?_|refine uR s1 ?_|refine uT s1 ?_|(refine uN hK ?_;clear hK)|apply zI));all_goals first|exact hg|exact⟨rfl,hg⟩
end Go.Proofs.YtblgchkahpgdjaaGreat
