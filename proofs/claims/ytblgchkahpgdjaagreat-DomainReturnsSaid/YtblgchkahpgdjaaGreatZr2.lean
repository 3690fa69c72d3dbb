/- What the claim rests on, part 2: the abstract machine, contracts of the functions, plain data. -/
import Derived.Laws.StructEq
import Derived.Laws.IdiomStrings
import Derived.Laws.BytesString
import Derived.Orders
import Derived.Test.YtblgchkahpgdjaaGreatZr1
set_option linter.unusedVariables false
set_option linter.unusedSimpArgs false
set_option linter.unusedSectionVars false
namespace Go.AM
section
variable {P:Program}{β β':BH}{h h':A0}{w w':World}{s:A9}{a:Act}
theorem Ou{n:Nat}{F:Nat->Prop}(v:Value):A8 β n F w (GY v) v:=by
 cases v<;>simp only[GY]<;>try simp only[A8]
 split
 ·rename_i cs hc;simp only[A8];exact⟨cs.toList,by simp,Bq.1 hc,AS.sc _⟩
 ·simp only[A8]
theorem NX(a b:ByteArray):(a==b)=true↔a=b:=by
 obtain⟨x⟩:=a;obtain⟨y⟩:=b;rw[ByteArray.mk.injEq];show(x==y)=true↔x=y;exact Dv
theorem Yn{k k':Value}(he:I2 k k'=some true):k=k':=by
 cases k<;>cases k'<;>simp only[I2,Ak,reduceCtorEq]at he
 ·simp [Dv.1 he]
 ·split at he<;>simp at he;simp[*]
 ·rw [(NX _ _).1 he]
def JC(kd:TypeDesc)(kt:Nat):Prop:=match kd with
 | .bool=>kt=1
 | .int _=>kt=2
 | .string=>kt=3
 |_=>False
theorem MX{kd:TypeDesc}{k k':Value}{b:Bool}{kt:Nat}(hk:Fk kt k=true)(hd:JC kd kt)(he:I2 k k'=some b):Instr.sameNow kd k k'=some b:=by
 cases k<;>cases k'<;>simp[I2]at he<;>simp[Fk]at hk<;>subst hk<;>cases kd<;>simp[JC]at hd<;>simp[Instr.sameNow,he]
theorem Te{n:Nat}{F:Nat->Prop}{kd:TypeDesc}{k:Value}{kt:Nat}(hk:Fk kt k=true)(hd:JC kd kt): ∀ (es:List (Value × PV))(fs:List MapEntry)(i:Nat),CH β n F w es fs->HZ k es=some none->Instr.findNow kd k fs i=some none
 |[],[],i,_,_=>by simp[Instr.findNow]
 |[],_::_,_,h,_=>by simp[CH]at h
 |_::_,[],_,h,_=>by simp[CH]at h
 |(k',p)::es,f::fs,i,h,hm=>by
  simp only[CH]at h;simp only[HZ]at hm;split at hm
  ·simp at hm
  ·rename_i he;simp only[Instr.findNow,h.1.1,MX hk hd he];exact Te hk hd es fs (i+1) h.2 hm
  ·simp at hm
theorem Tf{n:Nat}{F:Nat->Prop}{kd:TypeDesc}{k:Value}{v:PV}{kt:Nat}(hk:Fk kt k=true)(hd:JC kd kt): ∀ (es:List (Value × PV))(fs:List MapEntry)(i:Nat),CH β n F w es fs->HZ k es=some (some v)->
  ∃ j e,Instr.findNow kd k fs i=some (some (i+j,e.val))/\fs[j]? =some e/\A8 β n F w v e.val
 |[],[],i,_,hm=>by simp[HZ]at hm
 |[],_::_,_,h,_=>by simp[CH]at h
 |_::_,[],_,h,_=>by simp[CH]at h
 |(k',p)::es,f::fs,i,h,hm=>by
  simp only[CH]at h;simp only[HZ]at hm;split at hm
  ·rename_i he;simp at hm;subst hm;exact⟨0,f,by simp only[Instr.findNow,h.1.1,MX hk hd he,Fi],rfl,h.1.2⟩
  ·rename_i he;obtain⟨j,e,h1,h2,h3⟩:=Tf hk hd es fs (i+1) h.2 hm;refine⟨j+1,e,?_,by simpa using h2,h3⟩;simp only[Instr.findNow,h.1.1,MX hk hd he,h1];congr 3;omega
  ·simp at hm
theorem Tg{n:Nat}{F:Nat->Prop}{kd:TypeDesc}{k:Value}{v:PV}{x:Value}{kt:Nat}(hk:Fk kt k=true)(hd:JC kd kt)(hx:A8 β n F w v x): ∀ (es es':List (Value × PV))(fs:List MapEntry)(i:Nat),CH β n F w es fs->I3 k v es=some es'->
  (Instr.findNow kd k fs i=some none/\ ∀ born,CH β n F w es' (fs++[⟨k,x,born⟩]))\/
  (∃ j e,Instr.findNow kd k fs i=some (some (i+j,e.val))/\fs[j]? =some e/\e.key=k/\CH β n F w es' (fs.set j {e with key:=k,val:=x}))
 |[],es',[],i,_,hm=>by
  simp[I3]at hm;subst hm;exact .inl ⟨by simp[Instr.findNow],λborn=>by simp only[Au,CH];exact⟨⟨trivial,hx⟩,trivial⟩⟩
 |[],_,_::_,_,h,_=>by simp[CH]at h
 |_::_,_,[],_,h,_=>by simp[CH]at h
 |(k',p)::es,es',f::fs,i,h,hm=>by
  simp only[CH]at h;simp only[I3]at hm;split at hm
  ·rename_i he;simp at hm;subst hm;refine .inr ⟨0,f,by simp only[Instr.findNow,h.1.1,MX hk hd he,Fi],rfl,by rw[h.1.1,Yn he],?_⟩;simp only[Y8,CH];exact⟨⟨trivial,hx⟩,h.2⟩
  ·rename_i he;cases hm2:I3 k v es with
   |none=>simp[hm2]at hm
   |some es2=>
    simp[hm2]at hm;subst hm;rcases Tg hk hd hx es es2 fs (i+1) h.2 hm2 with⟨h1,h2⟩|⟨j,e,h1,h2,h3,h4⟩
    ·refine .inl ⟨by simp only[Instr.findNow,h.1.1,MX hk hd he,h1],λborn=>?_⟩;simp only[C3,CH];exact⟨h.1,h2 born⟩
    ·refine .inr ⟨j+1,e,?_,by simpa using h2,h3,?_⟩
     ·simp only[Instr.findNow,h.1.1,MX hk hd he,h1];congr 3;omega
     ·simp only[List.set_cons_succ,CH];exact⟨h.1,h4⟩
  ·simp at hm
theorem Th{t:Nat}{m:Nat × Value}(hm:Jd P t=some m): ∃ k e i,P.underlying t=some (.map k e)/\P.info? e=some i/\i.zero=some m.2/\kT P k=m.1:=by
 unfold Jd at hm;split at hm
 ·rename_i k e hu;unfold LF at hm;cases hi:P.info? e with
  |none=>simp[hi]at hm
  |some i=>
   cases hz:i.zero with
   |none=>simp[hi,hz]at hm
   |some z=>simp[hi,hz]at hm;subst hm;exact⟨k,e,i,hu,hi,hz,rfl⟩
 ·simp at hm
theorem Ti{k:Nat}{kv:Value}{kt:Nat}(hk:Fk kt kv=true)(hkt:kT P k=kt): ∃ kd,P.underlying k=some kd/\JC kd kt:=by
 subst hkt;cases hu:P.underlying k with
 |none=>simp only[kT,hu]at hk;cases kv<;>simp[Fk]at hk
 |some kd=>
  refine⟨kd,rfl,?_⟩;simp only[kT,hu]at hk⊢;cases kd<;>simp only[JC]<;>cases kv<;>simp[Fk]at hk
theorem Yo{b:Bool}{k n:Nat}{kv:Value}{kd:TypeDesc}{kt:Nat}(hu:P.underlying k=some kd)(hd:JC kd kt)(w:World):(Instr.checkKey b (n+1) k kv).run P w= .ok () w:=by
 cases kd<;>simp[JC]at hd<;>simp[Instr.checkKey,run_underlying hu]
theorem Ov{b:Bool}{k:Nat}{kv:Value}{kd:TypeDesc}{kt:Nat}(hu:P.underlying k=some kd)(hd:JC kd kt)(w:World):(Instr.checkKey b 10000 k kv).run P w= .ok () w:=Yo (n:=9999) hu hd w
theorem Ow{r:Nat}{fs:Array MapEntry}{cl:Nat}(hr:w.heap[r]? =some (.map fs cl)):(getObj r).run P w= .ok (.map fs cl) w:=by
 simp only[getObj,Sem.run,hr]
theorem Yp(sm:Ay β h w){p:PV}{x:Value}{es:List (Value × PV)}(hv:MU h p=some es)(hx:AQ β h w p x):
  (x= .map none/\es=[])\/ ∃ r fs cl,x= .map (some r)/\w.heap[r]? =some (.map fs cl)/\CH β h.next (Fz β h w) w es fs.toList:=by
 unfold MU at hv;split at hv
 ·simp at hv;subst hv;simp only[AQ,A8]at hx;exact .inl ⟨hx,rfl⟩
 ·rename_i id;split at hv
  ·rename_i es' hob;simp at hv;subst hv;have hok:=sm.ok id _ hob;simp only[BI]at hok;obtain⟨b,fs,cl,h1,h2,h3⟩:=hok;simp only[AQ,A8]at hx;obtain⟨_,b',hb',rfl⟩:=hx;rw[h1]at hb';simp at hb';subst hb';exact .inr ⟨b,fs,cl,rfl,h2,h3⟩
  ·simp at hv
 ·simp at hv
theorem Yq(sm:Ay β h w){t:Nat}{m:Nat × Value}{p:PV}{kv x:Value}{es:List (Value × PV)}{r:Option PV}{ok:Bool}(hm:Jd P t=some m)(hv:MU h p=some es)(hk:Fk m.1 kv=true)
  (hf:HZ kv es=some r)(hx:AQ β h w p x):
  ∃ v,(Instr.lookup t x kv ok).run P w= .ok v w/\AQ β h w (Jh ok m.2 r) v:=by
 obtain⟨k,e,i,hu,hi,hz,hkt⟩:=Th hm;obtain⟨kd,hkd,hd⟩:=Ti (P:=P) hk hkt;have hfin: ∀ (fs:Array MapEntry),CH β h.next (Fz β h w) w es fs.toList->(Instr.lookup t x kv ok).run P w=(do
   let (v,ok') ← match ← Instr.findKey k kv fs.toList with
    |some (_,v)=>pure (v,true)
    |none=>pure (← zeroValue e,false)
   pure (if ok then .tuple #[v,.bool ok']else v):Sem Value).run P w-> ∃ v,(Instr.lookup t x kv ok).run P w= .ok v w/\AQ β h w (Jh ok m.2 r) v:=by
  intro fs hrep hrun;rw[hrun];cases r with
  |none=>
   have h1:=Te hk hd es fs.toList 0 hrep hf;have h2:(Instr.findKey k kv fs.toList).run P w= .ok none w:=(by simp[Instr.findKey,run_underlying hkd,h1]);have h3:(zeroValue e).run P w= .ok m.2 w:=(by simp[zeroValue,typeInfo,hi,hz]);refine⟨if ok then .tuple #[m.2,.bool false]else m.2,by simp[h2,h3],?_⟩;cases ok with
   |true=>simp only[Jh,AH,AQ,A8];exact⟨[m.2,.bool false],rfl,by simp only[AS,A8];exact⟨Ou _,trivial,trivial⟩⟩
   |false=>simp only[Jh,BG,AP];exact Ou _
  |some v=>
   obtain⟨j,en,h1,h2,h3⟩:=Tf hk hd es fs.toList 0 hrep hf;have h4:(Instr.findKey k kv fs.toList).run P w= .ok (some (0+j,en.val)) w:=(by simp[Instr.findKey,run_underlying hkd,h1]);refine⟨if ok then .tuple #[en.val,.bool true]else en.val,by simp[h4],?_⟩;cases ok with
   |true=>simp only[Jh,AH,AQ,A8];exact⟨[en.val,.bool true],rfl,by simp only[AS,A8];exact⟨h3,trivial,trivial⟩⟩
   |false=>simp only[Jh,BG,AP];exact h3
 rcases Yp sm hv hx with⟨rfl,rfl⟩|⟨rr,fs,cl,rfl,h2,h3⟩
 ·refine hfin #[] (by simp[CH]) ?_;simp only[Instr.lookup,Sem.run_bind,run_underlying hu,Result.andThen_ok,Sem.run_pure,Ov hkd hd];rfl
 ·refine hfin fs h3 ?_;simp only[Instr.lookup,Sem.run_bind,run_underlying hu,Result.andThen_ok,Sem.run_pure,Ov hkd hd,Ow h2];rfl
theorem Yr{k:Value}{kt n:Nat}(hk:Fk kt k=true):Instr.sameBits n k k=true:=by
 cases k<;>simp[Fk]at hk<;>simp[Instr.sameBits,NX]
theorem Ys{k:Value}{kt:Nat}(hk:Fk kt k=true):Instr.sameBits 10000 k k=true:=Yr hk
theorem Tj{r:Nat}{fs:Array MapEntry}{cl:Nat}(o:Obj)(hr:w.heap[r]? =some (.map fs cl)):(setObj r o).run P w= .ok () {w with heap:=w.heap.setIfInBounds r o}:=by
 simp only[setObj,Sem.run,hr]
theorem Ay.setMap(sm:Ay β h w){id b cl cl':Nat}{es es':List (Value × PV)}{fs fs':Array MapEntry}(hob:h.obj id=some (.map es))(hb:(β id).b=some b)(hw:w.heap[b]? =some (.map fs cl))
  (hrep:CH β h.next (Fz β h w) w es' fs'.toList):
  Ay β (h.set id (.map es')) {w with heap:=w.heap.setIfInBounds b (.map fs' cl')}/\BM β h w β (h.set id (.map es')) {w with heap:=w.heap.setIfInBounds b (.map fs' cl')}:=by
 have hlt:b<w.heap.size:=(J4.1 hw).1;refine Ay.step sm id (.map es') rfl rfl rfl (by simp) (by simp[A0.set]) (λ_ _=>rfl) (by simp[A0.set]) (sm.lt id (by rw[hob];try rfl)) (λid' hne=> .inr (by simp[A0.set,hne])) (λb' hb'=> .inr ⟨id,by rw[hob];try rfl,hb',.inl rfl⟩) (λb' _ hb'=>?_) (λm=>?_)
 ·have:b≠b':=λe=>hb' (by rw[← e];exact hb);simp[MG this]
 ·simp only[BI];exact⟨b,fs',cl',hb,by simp[hlt],CH.mv m _ _ hrep⟩
theorem Yt(sm:Ay β h w){t id:Nat}{m:Nat × Value}{kv x y:Value}{q:PV}{es es':List (Value × PV)}(hm:Jd P t=some m)(hob:h.obj id=some (.map es))(hk:Fk m.1 kv=true)
  (hp:I3 kv q es=some es')(hx:AQ β h w (.mp id) x)(hy:AQ β h w q y):
  ∃ w',(Instr.mapUpdate t x kv y).run P w= .ok () w'/\Ay β (h.set id (.map es')) w'/\BM β h w β (h.set id (.map es')) w':=by
 obtain⟨k,e,i,hu,hi,hz,hkt⟩:=Th hm;obtain⟨kd,hkd,hd⟩:=Ti (P:=P) hk hkt;have hok:=sm.ok id _ hob;simp only[BI]at hok;obtain⟨b,fs,cl,h1,h2,h3⟩:=hok;simp only[AQ,A8]at hx;obtain⟨_,b',hb',rfl⟩:=hx;rw[h1]at hb';simp at hb';subst hb';rcases Tg hk hd hy es es' fs.toList 0 h3 hp with⟨g1,g2⟩|⟨j,en,g1,g2,g3,g4⟩
 ·have h4:(Instr.findKey k kv fs.toList).run P w= .ok none w:=by simp[Instr.findKey,run_underlying hkd,g1]
  have:=Ay.setMap sm (cl':=cl+1) (fs':=fs.push ⟨kv,y,cl⟩) hob h1 h2 (by simpa using g2 cl);refine⟨_,?_,this⟩;simp only[Instr.mapUpdate,Sem.run_bind,run_underlying hu,Result.andThen_ok,Ov hkd hd,Ow h2,h4,Tj _ h2]
 ·have h4:(Instr.findKey k kv fs.toList).run P w= .ok (some (0+j,en.val)) w:=by simp[Instr.findKey,run_underlying hkd,g1]
  have hfs:fs[j]? =some en:=by rw[← MH];exact g2
  have hkk:(((fs[0+j]?).map (·.key)).getD kv)=kv:=by simp[hfs,g3]
  have hmod:(fs.modify (0+j) λe=>{e with key:=kv,val:=y}).toList=fs.toList.set j {en with key:=kv,val:=y}:=by
   rw[Be];apply List.ext_getElem?;intro n;rw[MH,Array.getElem?_modify,Y6];by_cases hn:j=n
   ·subst hn;have hjl:j<fs.toList.length:=(BC.1 g2).1;rw[AG rfl,AG rfl,AG hjl,hfs];try rfl
   ·rw [A4 hn,A4 hn];simp
  have:=Ay.setMap sm (cl':=cl) (fs':=fs.modify (0+j) λe=>{e with key:=kv,val:=y}) hob h1 h2 (by rw[hmod];exact g4);refine⟨_,?_,this⟩;have hks:(Instr.keyThatStays kv kv).run P w= .ok kv w:=by simp[Instr.keyThatStays,Ys hk]
  simp only[Instr.mapUpdate,Sem.run_bind,run_underlying hu,Result.andThen_ok,Ov hkd hd,Ow h2,h4,hkk,hks,Tj _ h2]
theorem Yu(sm:Ay β h w)(t:Nat): ∃ v w' β',(Instr.makeMap t none).run P w= .ok v w'/\Ay β' (h.new (.map [])) w'/\BM β h w β' (h.new (.map [])) w'/\AQ β' (h.new (.map [])) w' (.mp h.next) v:=by
 have:=Ay.step (h':=h.new (.map [])) (β':=⟨λid=>if id=h.next then⟨some w.heap.size,0,0,0⟩else β id,β.X⟩) (w':=w.alloc (.map #[] 0)) sm h.next (.map []) rfl rfl rfl (by simp) (by simp[A0.new]) (λid hid=>by simp;intro e;omega) (by simp[A0.new]) (by simp[A0.new]) (λid hne=> .inr (by simp[A0.new,hne])) (λb hb=> .inl (by simp at hb;omega)) (λb hb _=>heap_alloc_old w _ hb) (λm=>by
  simp only[BI,AH];exact⟨w.heap.size, #[],0,rfl,heap_alloc_new w _,by simp[CH]⟩)
 refine⟨.map (some w.heap.size),_,_,by simp[Instr.makeMap],this.1,this.2,?_⟩;simp[AQ,A8,A0.new]
theorem Tm{t:Nat}(hu:LI P t=true): ∃ e,P.underlying t=some (.slice e)/\P.underlying e=some (.int .u8):=by
 unfold LI at hu;split at hu
 ·rename_i e he;split at hu
  ·rename_i h2;exact⟨e,he,h2⟩
  ·simp at hu
 ·simp at hu
theorem Tn(s:ByteArray)(cap n:Nat)(F:Nat->Prop):HF β n F w 1 (EG s.data.toList) (bytesRow s cap):=by
 intro i r hr;simp only[EG,IY]at hr;cases hi:s.data.toList[i]? with
 |none=>simp[hi]at hr
 |some b=>
  simp[hi]at hr;subst hr;refine⟨rfl,λj p hp=>?_⟩;cases j with
  |succ j=>simp at hp
  |zero=>
   simp at hp;subst hp;rw[MH]at hi;have hlt:i<s.data.size:=(J4.1 hi).1;refine⟨.int .u8 b.toNat,?_,by simp[Value.oneCell'],by simp only[A8]⟩;rw[Nat.mul_one,Fi,bytesRow,mF (by simpa using hlt)];simp[hi]
theorem Yv(s:ByteArray){cap:Nat}(h:s.size<=cap):(bytesRow s cap).size=cap:=by
 simp[bytesRow];have:s.data.size=s.size:=rfl;omega
theorem Ay.newRowsF(sm:Ay β h w)(z:Nat)(rows:List (List PV))(c:Array Value)(e:TypeId)(fr:Nat × Nat)(hfr: ∀ i,i<c.size->¬ (fr.1<=i/\i<fr.2))(hr:HF β h.next (Fz β h w) w z rows c)(hlen:rows.length*z<=c.size):
  Ay ⟨λid=>if id=h.next then⟨some w.heap.size,0,z,c.size⟩else β id,β.X⟩ (h.new (.arr z rows)) (w.alloc (.cells c e fr))/\
  BM β h w ⟨λid=>if id=h.next then⟨some w.heap.size,0,z,c.size⟩else β id,β.X⟩ (h.new (.arr z rows)) (w.alloc (.cells c e fr)):=by
 refine Ay.step sm h.next (.arr z rows) rfl rfl rfl (by simp) (by simp[A0.new]) (λid hid=>by simp;intro e;omega) (by simp[A0.new]) (by simp[A0.new]) (λid hne=> .inr (by simp[A0.new,hne])) (λb hb=> .inl (by simp at hb;omega)) (λb hb _=>heap_alloc_old w _ hb) (λm=>?_)
 simp only[BI,AH];exact⟨trivial,.inr ⟨w.heap.size,c,e,fr,rfl,heap_alloc_new w _,rfl,by omega,hfr,hr.rep m (heap_alloc_new w _)⟩⟩
theorem Yw(sm:Ay β h w){src dst:Nat}{s:ByteArray}{ow:Bool}{r:PV}(hs:P.underlying src=some .string)(hu:LI P dst=true)(hn:s.size<=140737488355328)
  (he:(if ow then some (PV.own h.next 0 s.data.toList.length,h.new (.arr 1 (EG s.data.toList)))else some (.imm 1 (EG s.data.toList),h))=some (r,h')):
  ∃ v w' β',(convert src dst (.string s)).run P w= .ok v w'/\Ay β' h' w'/\BM β h w β' h' w'/\AQ β' h' w' r v:=by
 obtain⟨e,h1,h2⟩:=Tm hu;have hge:=grownCap_ge w s.size 0 e;have hm:grownCap w s.size 0 e<=maxLen:=grownCap_le_maxLen w _ _ e (by simp only[maxLen];omega);have hsz:=Yv s hge;have hlen:s.data.toList.length=s.size:=by rw[FA];try rfl
 have hbl:(EG s.data.toList).length=s.size:=by simp[EG]
 obtain⟨d1,d2⟩:=sm.drew;cases ow with
 |true=>
  simp at he;obtain⟨rfl,rfl⟩:=he;obtain⟨a1,a2⟩:=Ay.newRowsF d1 1 (EG s.data.toList) (bytesRow s (grownCap w s.size 0 e)) e ((bytesRow s (grownCap w s.size 0 e)).size,(bytesRow s (grownCap w s.size 0 e)).size+1) (λi hi=>by simp only;omega) (Tn s _ _ _) (by rw[hbl,hsz];omega);refine⟨_,_,_,run_bytes_of_string w src dst e s hs h1 h2,a1,d2.trans a2,?_⟩;simp only[AQ,A8];refine⟨by simp[A0.new],some ⟨w.heap.size,0,none⟩,grownCap w s.size 0 e,?_,?_,hm,.inr ⟨w.heap.size,?_,?_,?_⟩⟩
  ·simp
  ·simpa using hge
  ·simp
  ·simp
  ·simp [hsz]
 |false=>
  simp at he;obtain⟨rfl,rfl⟩:=he;obtain⟨a1,a2,a3⟩:=d1.junk (.cells (bytesRow s (grownCap w s.size 0 e)) e ((bytesRow s (grownCap w s.size 0 e)).size,(bytesRow s (grownCap w s.size 0 e)).size+1));refine⟨_,_,β,run_bytes_of_string w src dst e s hs h1 h2,a1,d2.trans a2,?_⟩;simp only[AQ,A8];refine⟨some ⟨w.heap.size,0,none⟩,grownCap w s.size 0 e,by rw[hbl],by rw[hbl];exact hge,hm,.inr ⟨w.heap.size,0,a3,rfl,?_⟩⟩;exact(Tn s _ _ _).rep a2.mv (heap_alloc_new w.drew _)
theorem Yx{n:Nat}{F:Nat->Prop}: ∀ {rows:List (List PV)}{l:List UInt8}{xs:List Value},Ic rows=some l->AS β n F w rows.flatten xs-> ∃ ns:List Int,xs=ns.map (Value.int .u8)/\ns.map (λn=>UInt8.ofNat n.toNat)=l:=by
 intro rows
 induction rows with
 |nil=>intro l xs hb hx;simp[Ic]at hb;subst hb;cases xs<;>simp[AS]at hx;exact⟨[],rfl,rfl⟩
 |cons r rows ih=>
  intro l xs hb hx;unfold Ic at hb;split at hb
  ·simp_all
  ·rename_i n' rest heq;simp only[T5]at heq;obtain⟨rfl,rfl⟩:=heq;cases hr:Ic rows with
   |none=>simp[hr]at hb
   |some l'=>
    simp[hr]at hb;subst hb;cases xs with
    |nil=>simp[AS]at hx
    |cons x xs=>
     simp only[T4,C3,Au,AS,A8]at hx;obtain⟨ns,h1,h2⟩:=ih hr hx.2;exact⟨n'::ns,by simp[hx.1,h1],by simp[h2]⟩
  ·simp at hb
theorem Yy(ns:List Int)(s:ByteArray):ns.foldl (λr n=>r.push (UInt8.ofNat n.toNat)) s=⟨(s.data.toList++ns.map λn=>UInt8.ofNat n.toNat).toArray⟩:=by
 induction ns generalizing s with
 |nil=>simp
 |cons n ns ih=>rw[L7,ih];simp[ByteArray.push]
theorem Yz(sm:Ay β h w){src dst:Nat}{y:PV}{rows:List (List PV)}{l:List UInt8}{x:Value}(hu:LI P src=true)(hd:P.underlying dst=some .string)(hz:Cw h 1 y=true)(hv:EZ h y=some rows)(hb:Ic rows=some l)
  (hx:AQ β h w y x):(convert src dst x).run P w= .ok (.string ⟨l.toArray⟩) w:=by
 obtain⟨e,h1,h2⟩:=Tm hu;obtain⟨aa,cap,rfl,hle,h3⟩:=Qm sm hv hz hx;rw[run_convert_bytes_string w src dst e aa _ _ h1 h2 hd];have hz1: ∀ r∈rows,r.length=1:=by
  rcases h3 with rfl|⟨b,o,_,h4⟩
  ·simp
  ·exact h4.lens
 obtain⟨ys,hyr,hyl,hy1,hyn⟩:=Ot (P:=P) (w:=w) (cap:=cap) hz1 h3;obtain⟨ns,rfl,hns⟩:=Yx hb hyl;cases aa with
 |none=>
  rcases h3 with rfl|⟨b,o,h4,_⟩
  ·simp [Ic]at hb;subst hb;simp[Conv.bytesToString];rfl
  ·simp at h4
 |some aa=>
  have hld:(loadCells aa rows.length).run P w= .ok (ns.map (Value.int .u8)).toArray w:=by
   rcases h3 with rfl|⟨b,o,h4,h5⟩
   ·have:ns=[]:=(by simpa using hyn);subst this;simp[loadCells,loadCellsFrom]
   ·simpa [Builtin.firstCells]using hyr
  rw[run_bytesToString w aa _ cap ns hld,Yy,hns];simp
theorem Z0{t:Nat}(hk:kT P t=1):P.underlying t=some .bool:=by unfold kT at hk;split at hk<;>first|assumption|(simp at hk)
theorem NY{t:Nat}(hk:kT P t=4): ∃ e,P.underlying t=some (.pointer e):=by unfold kT at hk;split at hk<;>first|exact⟨_, ‹_›⟩|(simp at hk)
theorem Ox{t:Nat}(hk:kT P t=6): ∃ k e,P.underlying t=some (.map k e):=by unfold kT at hk;split at hk<;>first|exact⟨_,_, ‹_›⟩|(simp at hk)
theorem Oy{t:Nat}(hk:kT P t=5): ∃ e,P.underlying t=some (.slice e):=by unfold kT at hk;split at hk<;>first|exact⟨_, ‹_›⟩|(simp at hk)
theorem Qp{t:Nat}(hk:kT P t=7): ∃ ms,P.underlying t=some (.interface ms):=by unfold kT at hk;split at hk<;>first|exact⟨_, ‹_›⟩|(simp at hk)
theorem Tp{n:Nat}{F:Nat->Prop}{t d:Nat}{p q:PV}{x y:Value}{b:Bool}{c:Bool}(he:EF (kT P t) c p q=some b)(hx:A8 β n F w p x)(hy:A8 β n F w q y):
  (Op.equalIn (d+1) t x y).run P w= .ok b w/\ ∀ (op:BinOp)(u v:Operand),c=(FT u||FT v)->(eqGuard op t u v x y).run P w= .ok () w:=by
 unfold EF at he;split at he<;>(try(simp at he;done))<;>(split at he<;>(try(simp at he;done)))<;>rename_i hk<;>simp at he<;>subst he
 ·simp only[A8]at hx hy;subst hx;subst hy;refine⟨by simp[Op.equalIn,run_underlying (Z0 hk)],λop u v _=>by cases op<;>rfl⟩
 ·obtain ⟨ms,hu⟩:=Qp hk.1;simp only[A8]at hx hy;subst hx;subst hy;refine⟨by simp[Op.equalIn,run_underlying hu],λop u v hc=>?_⟩;rw[hk.2]at hc;have hor:FT u=true\/FT v=true:=(DG _ _).mp hc.symm;rcases hor with h1|h1
  ·cases u<;>simp[FT]at h1;cases op<;>rfl
  ·cases v<;>simp[FT]at h1;cases op<;>cases u<;>rfl
 ·obtain ⟨ms,hu⟩:=Qp hk;simp only[A8]at hx hy;subst hx;subst hy;exact⟨by simp[Op.equalIn,run_underlying hu],λop u v _=>by cases op<;>rfl⟩
 ·obtain ⟨ms,hu⟩:=Qp hk;simp only[A8]at hx hy;subst hx;subst hy;exact⟨by simp[Op.equalIn,run_underlying hu],λop u v _=>by cases op<;>rfl⟩
 ·obtain ⟨e,hu⟩:=NY hk;simp only[A8]at hx hy;subst hx;subst hy;exact⟨by simp[Op.equalIn,run_underlying hu],λop u v _=>by cases op<;>rfl⟩
 ·obtain ⟨e,hu⟩:=NY hk;simp only[A8]at hx hy;obtain⟨_,b,_,rfl⟩:=hx;subst hy;exact⟨by simp[Op.equalIn,run_underlying hu],λop u v _=>by cases op<;>rfl⟩
 ·obtain ⟨e,hu⟩:=NY hk;simp only[A8]at hx hy;obtain⟨_,b,_,rfl⟩:=hy;subst hx;exact⟨by simp[Op.equalIn,run_underlying hu],λop u v _=>by cases op<;>rfl⟩
 ·obtain ⟨e,hu⟩:=NY hk;simp only[A8]at hx hy;obtain⟨b,o,_,rfl,_⟩:=hx;subst hy;exact⟨by simp[Op.equalIn,run_underlying hu],λop u v _=>by cases op<;>rfl⟩
 ·obtain ⟨e,hu⟩:=NY hk;simp only[A8]at hx hy;obtain⟨b,o,_,rfl,_⟩:=hy;subst hx;exact⟨by simp[Op.equalIn,run_underlying hu],λop u v _=>by cases op<;>rfl⟩
 ·obtain ⟨k,e,hu⟩:=Ox hk;simp only[A8]at hx hy;obtain⟨_,b,_,rfl⟩:=hx;subst hy;exact⟨by simp[Op.equalIn,run_underlying hu],λop u v _=>by cases op<;>rfl⟩
 ·obtain ⟨k,e,hu⟩:=Ox hk;simp only[A8]at hx hy;subst hx;subst hy;exact⟨by simp[Op.equalIn,run_underlying hu],λop u v _=>by cases op<;>rfl⟩
 ·obtain ⟨e,hu⟩:=Oy hk;simp only[A8]at hx hy;subst hx;subst hy;exact⟨by simp[Op.equalIn,run_underlying hu],λop u v _=>by cases op<;>rfl⟩
 ·obtain ⟨e,hu⟩:=Oy hk;simp only[A8]at hx hy;subst hx;subst hy;exact⟨by simp[Op.equalIn,run_underlying hu],λop u v _=>by cases op<;>rfl⟩
 ·obtain ⟨e,hu⟩:=Oy hk.1;simp only[A8]at hx hy;obtain⟨a,cap,rfl,_,_,hr⟩:=hx;subst hy;rcases hr with rfl|⟨b,o,_,rfl,_⟩
  ·simp at hk
  ·exact ⟨by simp[Op.equalIn,run_underlying hu],λop u v _=>by cases op<;>rfl⟩
 ·obtain ⟨e,hu⟩:=Oy hk.1;simp only[A8]at hx hy;obtain⟨_,a,cap,rfl,hlc,_,hr⟩:=hx;subst hy;rcases hr with rfl|⟨b,_,rfl,_⟩
  ·omega
  ·exact ⟨by simp[Op.equalIn,run_underlying hu],λop u v _=>by cases op<;>rfl⟩
theorem Qq{op:BinOp}{t:Nat}{k k':IntKind}{a b:Int}{v:Value}(hv:(if IZ op then LG op k a b else if k=k' then Dn op k a b else none)=some v)(u1 u2:Operand):
    (do eqGuard op t u1 u2 (.int k a) (.int k' b);binOp op t (.int k a) (.int k' b):Sem Value).run P w= .ok v w:=by
  have hg:eqGuard op t u1 u2 (.int k a) (.int k' b)=pure ():=by cases op<;>rfl
  rw[hg];simp only[pure_bind];cases op<;>simp only[IZ,BG,AP,AH]at hv;all_goals first
    | (simp only [LG] at hv
       split at hv
       · simp at hv
       · rename_i hb;simp at hv;subst hv;simp[binOp,Op.shift,hb];done)
    | (split at hv
       · rename_i hk;subst hk;simp only[Dn]at hv;first
           |(simp at hv;done)
           |(simp at hv;subst hv;simp[binOp,Op.intArith,Op.intBits,Op.intCmp,NN,NO,NP,NQ];done)
           | (split at hv
              · simp at hv
              · rename_i hb;simp at hv;subst hv;simp[binOp,Op.intDiv,hb])
       · simp at hv)
theorem Z1{op:BinOp}{t:Nat}{a b:ByteArray}{v:Value}(hv:I0 op a b=some v)(u1 u2:Operand):
    (do eqGuard op t u1 u2 (.string a) (.string b);binOp op t (.string a) (.string b):Sem Value).run P w= .ok v w:=by
  have hg:eqGuard op t u1 u2 (.string a) (.string b)=pure ():=by cases op<;>rfl
  rw[hg];simp only[pure_bind];cases op<;>simp only[I0]at hv<;>first
    |(simp at hv;done)
    |(simp at hv;subst hv;simp[binOp,Op.stringOp,ByteArray.toList_eq];done)
    | (split at hv
       · simp at hv
       · rename_i hb;simp at hv;subst hv;simp only[binOp,Op.stringOp,hb,AP];rfl)
theorem Z2{n:Nat}{F:Nat->Prop}{op:BinOp}{t:Nat}{p q r:PV}{x y:Value}(u1 u2:Operand)(hv:Ia op (kT P t) (FT u1||FT u2) p q=some r)(hx:A8 β n F w p x)(hy:A8 β n F w q y):
  ∃ v,(do eqGuard op t u1 u2 x y;binOp op t x y:Sem Value).run P w= .ok v w/\A8 β n F w r v:=by
 unfold Ia at hv;split at hv
 ·rename_i k a k' b;simp only[A8]at hx hy;subst hx;subst hy;cases hh:(if IZ op then LG op k a b else if k=k' then Dn op k a b else none)with
  |none=>simp[hh]at hv
  |some v=>
   rw[hh]at hv;simp at hv;subst hv;exact⟨v,Qq hh u1 u2,by simp only[A8]⟩
 ·simp only[A8]at hx hy;subst hx;subst hy;rename_i a b;cases hh:I0 op a b with
  |none=>simp[hh]at hv
  |some v=>
   simp[hh]at hv;subst hv;exact⟨v,Z1 hh u1 u2,by simp only[A8]⟩
 ·rename_i k lo hi m r0 k' c;simp only[A8]at hx hy;subst hy;obtain⟨i,i1,i2,i3,rfl⟩:=hx;unfold TJ at hv;split at hv
  case isFalse=>simp at hv
  rename_i hk;subst hk;have key: ∀ v,Dn op k i c=some v->IZ op=false-> ∃ v',(do eqGuard op t u1 u2 (.int k i) (.int k c);binOp op t (.int k i) (.int k c):Sem Value).run P w= .ok v' w/\A8 β n F w (.sc v) v':=by
   intro v hpv hns;exact⟨v,Qq (by rw[hns,A4 (by simp),AG rfl];exact hpv) u1 u2,by simp only[A8]⟩
  split at hv
  ·split at hv
   ·rename_i hc;simp at hv;subst hv;obtain⟨rfl,hm⟩:=hc;have hpi:Dn .rem k i c=some (.int k r0):=(by unfold Dn;simp only;rw[A4 (by omega),i3]);exact key _ hpi rfl
   ·simp at hv
  ·rename_i hop;cases hc:MO op lo hi c with
   |none=>simp[hc]at hv
   |some b=>
    simp[hc]at hv;subst hv;have h1:Dn op k i c=some (.bool b)/\IZ op=false:=by
     unfold MO at hc;split at hc<;>(try(simp at hc;done))<;>(refine⟨?_,rfl⟩)<;>simp only[Dn,Ak,Value.bool.injEq];all_goals(split at hc<;>(try(split at hc))<;>(try(simp at hc;done))<;>(simp at hc;subst hc;simp;omega))
    exact key _ h1.1 h1.2
 ·rename_i k' c k lo hi m r0;simp only[A8]at hx hy;subst hx;obtain⟨i,i1,i2,i3,rfl⟩:=hy;unfold TK at hv;split at hv
  case isFalse=>simp at hv
  rename_i hk;subst hk;have key: ∀ v,Dn op k c i=some v->IZ op=false-> ∃ v',(do eqGuard op t u1 u2 (.int k c) (.int k i);binOp op t (.int k c) (.int k i):Sem Value).run P w= .ok v' w/\A8 β n F w (.sc v) v':=by
   intro v hpv hns;exact⟨v,Qq (by rw[hns,A4 (by simp),AG rfl];exact hpv) u1 u2,by simp only[A8]⟩
  cases hc:MO (Qh op) lo hi c with
  |none=>simp[hc]at hv
  |some b=>
   simp[hc]at hv;subst hv;have h1:Dn op k c i=some (.bool b)/\IZ op=false:=by
    unfold MO Qh at hc;cases op<;>simp only at hc<;>(try(simp at hc;done))<;>(refine⟨?_,rfl⟩)<;>simp only[Dn,Ak,Value.bool.injEq];all_goals(split at hc<;>(try(split at hc))<;>(try(simp at hc;done))<;>(simp at hc;subst hc;simp;omega))
   exact key _ h1.1 h1.2
 ·rename_i hni hns hn1 hn2;have hgen: ∀ b,EF (kT P t) (FT u1||FT u2) p q=some b->binOp .eql t x y=(do pure (.bool (← Op.equal t x y)))/\binOp .neq t x y=(do pure (.bool (!(← Op.equal t x y)))):=by
   intro b hb;unfold EF at hb;split at hb<;>(try(simp at hb;done))<;>simp only[A8]at hx hy;all_goals first
    |(subst hx;subst hy;exact⟨rfl,rfl⟩)
    |(obtain⟨_,_,_,rfl⟩:=hx;subst hy;exact⟨rfl,rfl⟩)
    |(obtain⟨_,_,_,rfl⟩:=hy;subst hx;exact⟨rfl,rfl⟩)
    |(obtain⟨_,_,_,rfl,_⟩:=hx;subst hy;exact⟨rfl,rfl⟩)
    |(obtain⟨_,_,_,rfl,_⟩:=hy;subst hx;exact⟨rfl,rfl⟩)
    |(obtain⟨_,_,rfl,_⟩:=hx;subst hy;exact⟨rfl,rfl⟩)
  split at hv
  ·cases hb:EF (kT P t) (FT u1||FT u2) p q with
   |none=>simp[hb]at hv
   |some b=>
    simp[hb]at hv;subst hv;obtain⟨h1,h2⟩:=Tp (d:=9999) hb hx hy;refine⟨.bool b,?_,by simp only[A8]⟩;simp only[Sem.run_bind,h2 .eql u1 u2 rfl,Result.andThen_ok,(hgen b hb).1];show((Op.equalIn (9999+1) t x y).run P w).andThen _=_;rw[h1];try rfl
  ·cases hb:EF (kT P t) (FT u1||FT u2) p q with
   |none=>simp[hb]at hv
   |some b=>
    simp[hb]at hv;subst hv;obtain⟨h1,h2⟩:=Tp (d:=9999) hb hx hy;refine⟨.bool (!b),?_,by simp only[A8]⟩;simp only[Sem.run_bind,h2 .neq u1 u2 rfl,Result.andThen_ok,(hgen b hb).2];show((Op.equalIn (9999+1) t x y).run P w).andThen _=_;rw[h1];try rfl
  ·simp at hv
theorem Tt{t i:Nat}(hk:kT P t=3){xs:Array Value}{v:Value}(hv:xs[i]? =some v):(part t xs i).run P w= .ok v w:=by
 have hu:P.underlying t=some .string:=by unfold kT at hk;split at hk<;>first|assumption|(simp at hk)
 have ha:CY P t=false:=by simp[CY,hk]
 simp[part,NU hu,ha,hv]
theorem Tu{n d:Nat}{F:Nat->Prop}{xs ys:List Value}: ∀ (fs:List Field)(i:Nat)(a b:List PV){e:Bool},Ol P i fs=true->Ib a b=some e->a.length=fs.length->
  AS β n F w a (xs.drop i)->AS β n F w b (ys.drop i)->(Op.eqFields (d+1) xs.toArray ys.toArray fs).run P w= .ok e w
 |[],i,a,b,e,_,he,hl,_,_=>by
  have:a=[]:=J6.1 hl;subst this;cases b with
  |nil=>simp[Ib]at he;subst he;simp[Op.eqFields]
  |cons=>simp[Ib]at he
 |f::fs,i,[],b,e,_,_,hl,_,_=>by simp at hl
 |f::fs,i,p::a,b,e,hs,he,hl,ha,hb=>by
  match p,b,he,ha,hb with
  | .sc (.string s),.sc (.string s')::m,he1,ha1,hb1=>
   simp only[Ib,Dt]at he1;obtain⟨r,he2,rfl⟩:=he1;simp only[Ol,AR,BP,Dv]at hs;obtain⟨⟨⟨hn,ho⟩,hk⟩,hs⟩:=hs;have hu:P.underlying f.type=some .string:=(by unfold kT at hk;split at hk<;>first|assumption|(simp at hk));have get: ∀ (zs:List Value)(s:ByteArray)(l:List PV),AS β n F w (.sc (.string s)::l) (zs.drop i)->zs[i]? =some (.string s)/\AS β n F w l (zs.drop (i+1)):=by
    intro zs s l hz;have hd: ∀ u us,zs.drop i=u::us->zs[i]? =some u/\zs.drop (i+1)=us:=by
     intro u us hu2;have e1:(zs.drop i)[0]? =some u:=(by rw[hu2];try rfl);rw[KB]at e1;refine⟨by simpa using e1,?_⟩;have e2:=L8 (List.drop 1) hu2;rw[T6]at e2;simpa using e2
    cases hc:zs.drop i with
    |nil=>rw[hc]at hz;simp[AS]at hz
    |cons u us=>
     rw[hc]at hz;simp only[AS,A8]at hz;obtain⟨g1,g2⟩:=hd u us hc;rw[g1,hz.1,g2];exact⟨rfl,hz.2⟩
   obtain⟨x1,x2⟩:=get xs s a ha1;obtain⟨y1,y2⟩:=get ys s' m hb1;have ih:=Tu (d:=d) fs (i+1) a m hs he2 (by simpa using hl) x2 y2;have q1:=Tt (P:=P) (w:=w) hk (xs:=xs.toArray) (by simpa using x1);have q2:=Tt (P:=P) (w:=w) hk (xs:=ys.toArray) (by simpa using y1);simp only[Op.eqFields,hn,ne_eq,E3,AH,Sem.run_bind,ho,q1,q2,Result.andThen_ok,run_equalIn_string w d f.type s s' hu,ByteArray.toList_eq];cases hc:(s.data.toList==s'.data.toList)
   ·simp
   ·simpa using ih
theorem Z3{n:Nat}{F:Nat->Prop}{op:BinOp}{t:Nat}{p q r:PV}{x y:Value}(u1 u2:Operand)(hv:KO op (NR P t) p q=some r)(hx:A8 β n F w p x)(hy:A8 β n F w q y):
  ∃ v,(do eqGuard op t u1 u2 x y;binOp op t x y:Sem Value).run P w= .ok v w/\A8 β n F w r v:=by
 unfold KO at hv;split at hv
 ·rename_i a b;split at hv
  ·rename_i hn;unfold NR at hn;split at hn
   ·rename_i fs hu;split at hn
    ·rename_i hc;obtain⟨hs,hg,hf⟩:=hc;simp only[Ak]at hn;simp only[A8]at hx hy;obtain⟨xs,rfl,_,hx⟩:=hx;obtain⟨ys,rfl,_,hy⟩:=hy;have hfo:P.fieldsOf t=fs:=(by unfold Program.fieldsOf;rw[hu]);have key: ∀ e,Ib a b=some e->(Op.equalIn 10000 t (.agg xs.toArray) (.agg ys.toArray)).run P w= .ok e w:=by
      intro e he;show(Op.equalIn (9999+1) t _ _).run P w=_;rw[run_equalIn_struct w 9999 t _ _ (by rw[hu,hfo]) hs,hfo];exact Tu (d:=9998) fs.toList 0 a b hf he (by rw[← hn];simp) (by simpa using hx) (by simpa using hy)
     cases op<;>simp only[]at hv<;>(try(simp at hv;done))
     ·simp only[Dt]at hv;obtain⟨e,he,rfl⟩:=hv;refine⟨.bool e,?_,by simp only[A8]⟩;rw[Sem.run_bind,run_eqGuard_agg w _ t u1 u2 _ _ hg,Result.andThen_ok,run_eql_struct,key e he];try rfl
     ·simp only[Dt]at hv;obtain⟨e,he,rfl⟩:=hv;refine⟨.bool !e,?_,by simp only[A8]⟩;rw[Sem.run_bind,run_eqGuard_agg w _ t u1 u2 _ _ hg,Result.andThen_ok,run_neq_struct,key e he];try rfl
    ·simp at hn
   ·simp at hn
  ·simp at hv
 ·simp at hv
end
end Go.AM
namespace Go.AM
section
variable {P:Program}{β:BH}{h h':A0}{w:World}{s:A9}{a:Act}
theorem Oz{t:Nat}(hk:kT P t=5): ∃ e,P.underlying t=some (.slice e):=by unfold kT at hk;split at hk<;>first|exact⟨_, ‹_›⟩|(simp at hk)
theorem NZ{t:Nat}(hk:kT P t=3):P.underlying t=some .string:=by unfold kT at hk;split at hk<;>first|assumption|(simp at hk)
theorem Z4(sm:Ay β h w){t n:Nat}{p:PV}{x:Value}(ty:TypeId)(hk:GB (kT P t) p=true)(hl:Es h p=some n)(hx:AQ β h w p x):(Builtin.len_ #[t] ty #[x]).run P w= .ok (.int .i64 (n:Int)) w:=by
 unfold Es at hl;split at hl
 ·simp [GB]at hk;obtain⟨e,hu⟩:=Oz hk;simp at hl;subst hl;simp only[AQ,A8]at hx;obtain⟨aa,cap,rfl,_⟩:=hx;simp[Builtin.len_,run_underlying hu,goInt]
 ·simp [GB]at hk;obtain⟨e,hu⟩:=Oz hk;simp at hl;subst hl;simp only[AQ,A8]at hx;obtain⟨aa,rfl⟩:=hx;simp[Builtin.len_,run_underlying hu,goInt]
 ·simp [GB]at hk;obtain⟨e,hu⟩:=Oz hk;simp at hl;subst hl;simp only[AQ,A8]at hx;subst hx;simp[Builtin.len_,run_underlying hu,goInt]
 ·simp [GB]at hk;obtain⟨e,hu⟩:=Oz hk;simp at hl;subst hl;simp only[AQ,A8]at hx;obtain⟨_,aa,cap,rfl,_⟩:=hx;simp[Builtin.len_,run_underlying hu,goInt]
 ·simp [GB]at hk;have hu:=NZ hk;simp at hl;subst hl;simp only[AQ,A8]at hx;subst hx;simp[Builtin.len_,run_underlying hu,goInt]
 ·simp [GB]at hk;obtain⟨k,e,hu⟩:=Ox hk;simp at hl;subst hl;simp only[AQ,A8]at hx;subst hx;simp[Builtin.len_,run_underlying hu,goInt]
 ·simp [GB]at hk;obtain⟨k,e,hu⟩:=Ox hk;rename_i id;split at hl
  ·rename_i es hob;simp at hl;subst hl;have hok:=sm.ok id _ hob;simp only[BI]at hok;obtain⟨b,fs,cl,h1,h2,h3⟩:=hok;simp only[AQ,A8]at hx;obtain⟨_,b',hb',rfl⟩:=hx;rw[h1]at hb';simp at hb';subst hb';have hlen: ∀ (es:List (Value × PV))(fs:List MapEntry),CH β h.next (Fz β h w) w es fs->es.length=fs.length:=by
    intro es
    induction es with
    |nil=>intro fs;cases fs<;>simp[CH]
    |cons e es ih=>intro fs;cases fs with
     |nil=>simp[CH]
     |cons f fs=>simp only[CH,Aw];intro hh;rw[ih fs hh.2]
   have hh:=hlen es fs.toList h3;simp[Builtin.len_,run_underlying hu,Ow h2,goInt,hh]
  ·simp at hl
 ·simp at hl
def Cp(P:Program)(a:Act)(o:Oper)(β:BH)(h:A0)(w:World)(r:PV)(h':A0):Prop:=
 ∃ n v w' β',(execOp a.eval o).run P w= .ok n w'/\(n= .value v\/(n= .skip/\v=undef))/\Ay β' h' w'/\BM β h w β' h' w'/\AQ β' h' w' r v
theorem Cp.pure(sm:Ay β h w){o:Oper}{r:PV}{v:Value}(he:(execOp a.eval o).run P w= .ok (.value v) w)(hr:AQ β h w r v):Cp P a o β h w r h:=
 ⟨_,v,w,β,he,.inl rfl,sm,BM.refl,hr⟩
theorem Tv(sm:Ay β h w)(hs: ∀ t,AQ β h w (s t) (a.tmps.getD t undef)){ow:Bool}{r:PV}(o:Oper)(he:AT P ow o.op (A5 s) h=some (r,h')):Cp P a o β h w r h':=by
 obtain⟨dst,op,type,pos,after,guard⟩:=o;have rep:=KP hs;simp only at he;cases op
 case move x=>
  simp only[AT,Ak,Ar]at he;obtain⟨rfl,rfl⟩:=he;exact Cp.pure sm rfl (rep x)
 case assign x=>
  simp only[AT,Ak,Ar]at he;obtain⟨rfl,rfl⟩:=he;exact Cp.pure sm rfl (rep x)
 case pick c x y=>
  simp only[AT]at he;split at he
  ·rename_i t hc;simp only[Ak,Ar]at he;obtain⟨rfl,rfl⟩:=he;have h1:=rep c;rw[hc]at h1;simp only[AQ,A8]at h1;refine Cp.pure (v:=if t then a.eval x else a.eval y) sm (by cases t<;>simp[execOp,h1,asBool]) ?_;cases t
   ·exact rep y
   ·exact rep x
  ·simp at he
 case alloc t=>
  simp only[AT]at he;cases hz:D4 P t with
  |none=>simp[hz]at he
  |some z=>
   simp only[hz,D2]at he;split at he
   ·rename_i hpos;simp only[Ak,Ar]at he;obtain⟨rfl,rfl⟩:=he;obtain⟨i,v,h1,h2,h3,h4⟩:=Oo hz;obtain⟨β',g1,g2,g3⟩:=TS sm t v (z.map .sc) (by rw[h3];exact AS.sc z) (by rw[h3];exact h4);rw[E4]at g1 g2 g3;exact⟨_,_,_,β',by simp[execOp,Instr.alloc,zeroValue,typeInfo,h1,h2,Oq],.inl rfl,g1,g2,g3⟩
   ·simp at he
 case box t x=>
  simp only[AT]at he;split at he
  ·simp at he
  ·rename_i hall;simp only[YA]at hall;obtain⟨hl,h1⟩:=A8.cells hall (rep x);split at he
   ·split at he
    ·simp only[Ak,Ar]at he;obtain⟨rfl,rfl⟩:=he;obtain⟨β',g1,g2,g3⟩:=TS sm t (a.eval x) _ hl h1;exact⟨_,_,_,β',by simp[execOp,Instr.box,Oq],.inl rfl,g1,g2,g3⟩
    ·simp at he
   ·simp only[Ak,Ar]at he;obtain⟨rfl,rfl⟩:=he;obtain⟨g1,g2,g3⟩:=YU sm t (a.eval x) _ hl h1;exact⟨_,_,_,β,by simp[execOp,Instr.box,Oq],.inl rfl,g1,g2,g3⟩
 case build t parts=>
  simp only[AT]at he;split at he
  ·cases hz:D4 P t with
   |none=>simp[hz]at he
   |some z=>
    cases hp:Fj P t with
    |none=>simp[hz,hp]at he
    |some places=>
     simp only[hz,hp,D2]at he;cases hl:I1 (λi=>places[i]?) (z.map .sc) (parts.toList.map λp=>(p.1,A5 s p.2))with
     |none=>simp[hl]at he
     |some cs=>
      simp only[hl,Ba,Ak,Ar]at he;obtain⟨rfl,rfl⟩:=he;obtain⟨v,g1,g2⟩:=Yj hs hz hp hl;exact Cp.pure sm (by simp only[execOp,Sem.run_bind,g1,Result.andThen_ok];rfl) g2
  ·split at he
   ·cases hz:D4 P t with
    |none=>simp[hz]at he
    |some z=>
     cases hp:KN P t with
     |none=>simp[hz,hp]at he
     |some na=>
      simp only[hz,hp,D2]at he;cases hl:I1 (λi=>some (i*na.2,na.2)) (z.map .sc) (parts.toList.map λp=>(p.1,A5 s p.2))with
      |none=>simp[hl]at he
      |some cs=>
       simp only[hl,Ba,Ak,Ar]at he;obtain⟨rfl,rfl⟩:=he;obtain⟨v,g1,g2⟩:=Yk hs hz hp hl;exact Cp.pure sm (by simp only[execOp,Sem.run_bind,g1,Result.andThen_ok];rfl) g2
   ·simp at he
 case buildSlice t len parts=>
  simp only[AT]at he;cases hz:DK P t with
  |none=>simp[hz]at he
  |some zb=>
   cases hzz:GA P t with
   |none=>simp[hz,hzz]at he
   |some z=>
    simp only[hz,hzz,D2]at he;split at he
    case isFalse=>simp at he
    rename_i hc;cases hl:HY zb.1 (List.replicate len (z.map .sc)) (parts.toList.map λp=>(p.1,A5 s p.2))with
    |none=>simp[hl]at he
    |some rows=>
     simp only[hl,D2]at he;obtain⟨v,w',β',g1,g2,g3,g4⟩:=Ym sm hs hz hzz hc hl he;exact⟨_,v,w',β',by simp only[execOp,Sem.run_bind,g1,Result.andThen_ok];rfl,.inl rfl,g2,g3,g4⟩
 case load t x=>
  simp only[AT]at he;cases hz:CM P t with
  |none=>simp[hz]at he
  |some n=>
   cases hr:rd h (A5 s x)with
   |none=>simp[hz,hr]at he
   |some cs=>
    simp only[hz,hr,D2]at he;cases hv:JA (CY P t) n cs with
    |none=>simp[hv]at he
    |some v=>
     simp only[hv,Ba,Ak,Ar]at he;obtain⟨rfl,rfl⟩:=he;obtain⟨b,o,g1,g2⟩:=TQ sm hr (rep x);obtain⟨xv,g3,g4⟩:=TR (P:=P) hz hv g2;exact Cp.pure sm (by simp[execOp,Instr.loadAt,g1,Instr.sureAddr,g3]) g4
 case store t x y=>
  simp only[AT]at he;cases hz:CM P t with
  |none=>simp[hz]at he
  |some n=>
   simp only[hz,D2]at he;split at he
   case isFalse=>simp at he
   rename_i hc;cases hw:wr h (A5 s y).cells (A5 s x)with
   |none=>simp[hw]at he
   |some h2=>
    simp only[hw,Ba,Ak,Ar]at he;obtain⟨rfl,rfl⟩:=he;obtain⟨w',g1,g2,g3⟩:=YW sm hz hc.1 hc.2 hw (rep x) (rep y);exact⟨.skip,undef,w',β,by simp[execOp,g1],.inr ⟨rfl,rfl⟩,g2,g3,by simp only[AQ,A8]⟩
 case nilCheck x=>
  simp only[AT]at he;have h1:=rep x;split at he
  ·rename_i id i f hx;simp only[Ak,Ar]at he;obtain⟨rfl,rfl⟩:=he;rw[hx]at h1;have h2:=h1;simp only[AQ,A8]at h2;obtain⟨_,b,_,hv⟩:=h2;exact Cp.pure (v:=a.eval x) sm (by simp[execOp,hv]) h1
  ·rename_i cs hx;simp only[Ak,Ar]at he;obtain⟨rfl,rfl⟩:=he;rw[hx]at h1;have h2:=h1;simp only[AQ,A8]at h2;obtain⟨b,o,_,hv,_⟩:=h2;exact Cp.pure (v:=a.eval x) sm (by simp[execOp,hv]) h1
  ·simp at he
 case binOp op t x y t2=>
  simp only[AT]at he;cases hv:(if kT P t=8 then KO op (NR P t) (A5 s x) (A5 s y)else Ia op (kT P t) (FT x||FT y) (A5 s x) (A5 s y))with
  |none=>simp[hv]at he
  |some v=>
   simp only[hv,Ba,Ak,Ar]at he;obtain⟨rfl,rfl⟩:=he;obtain⟨u,g1,g2⟩: ∃ u,(do eqGuard op t x y (a.eval x) (a.eval y);binOp op t (a.eval x) (a.eval y):Sem Value).run P w= .ok u w/\AQ β h w v u:=by
    split at hv
    ·exact Z3 (P:=P) (w:=w) x y hv (rep x) (rep y)
    ·exact Z2 (P:=P) (w:=w) x y hv (rep x) (rep y)
   refine Cp.pure (v:=u) sm ?_ g2;simp only[Sem.run_bind]at g1;simp only[execOp,Sem.run_bind,g1,Result.andThen_ok];rfl
 case unOp op t x=>
  simp only[AT]at he;cases hv:LH op (A5 s x)with
  |none=>simp[hv]at he
  |some v=>
   simp only[hv,Ba,Ak,Ar]at he;obtain⟨rfl,rfl⟩:=he;have h1:=rep x;unfold LH at hv;split at hv
   ·rename_i b hx;simp only[Ak]at hv;subst hv;rw[hx]at h1;simp only[AQ,A8]at h1;exact Cp.pure (v:= .bool (!b)) sm (by simp[execOp,h1,Op.unary]) (by simp only[AQ,A8])
   ·rename_i k n hx;simp only[Ak]at hv;subst hv;rw[hx]at h1;simp only[AQ,A8]at h1;exact Cp.pure (v:= .int k (k.wrap (0-n))) sm (by simp only[execOp,h1,Op.unary,Op.intArith];rfl) (by simp only[AQ,A8])
   ·rename_i k n hx;simp only[Ak]at hv;subst hv;rw[hx]at h1;simp only[AQ,A8]at h1;exact Cp.pure (v:= .int k _) sm (by simp only[execOp,h1,Op.unary,Op.intBits];rfl) (by simp only[AQ,A8])
   ·simp at hv
 case convert src dst' x=>
  simp only[AT]at he;have h1:=rep x;split at he
  ·rename_i s hx;rw[hx]at h1;simp only[AQ,A8]at h1;split at he
   ·rename_i hk;split at he
    ·rename_i hk2;simp only[Ak,Ar]at he;obtain⟨rfl,rfl⟩:=he;exact Cp.pure (v:= .string s) sm (by simp[execOp,convert,run_underlying (NZ hk),run_underlying (NZ hk2),h1]) (by simp only[AQ,A8])
    ·simp at he
   ·split at he
    ·rename_i hc;obtain⟨v,w',β',g1,g2,g3,g4⟩:=Yw (P:=P) sm (NZ hc.1) hc.2.1 hc.2.2 he;exact⟨_,v,w',β',by simp only[execOp,h1,Sem.run_bind,g1,Result.andThen_ok];rfl,.inl rfl,g2,g3,g4⟩
    ·simp at he
  ·split at he
   ·rename_i hk;split at he
    ·rename_i hc;cases hv:EZ h (A5 s x)with
     |none=>simp[hv]at he
     |some rows=>
      cases hb:Ic rows with
      |none=>simp[hv,hb]at he
      |some l=>
       simp only[hv,hb,D2,Ba,Ak,Ar]at he;obtain⟨rfl,rfl⟩:=he;have g1:=Yz (P:=P) sm hc.1 (NZ hk) hc.2 hv hb h1;exact Cp.pure sm (by simp only[execOp,Sem.run_bind,g1,Result.andThen_ok];rfl) (by simp only[AQ,A8])
    ·simp at he
   ·cases hv:MP (J9 P src) (J9 P dst') (A5 s x)with
    |none=>simp[hv]at he
    |some v=>
     simp only[hv,Ba,Ak,Ar]at he;obtain⟨rfl,rfl⟩:=he;unfold MP at hv;split at hv
     ·rename_i k1 k2 k3 n e1 e2 hx;simp at hv;subst hv;rw[hx]at h1;simp only[AQ,A8]at h1;have hu1:P.underlying src=some (.int k1):=(by unfold J9 at e1;split at e1<;>simp_all);have hu2:P.underlying dst'=some (.int k2):=(by unfold J9 at e2;split at e2<;>simp_all);exact Cp.pure (v:= .int k2 (k2.wrap n)) sm (by simp[execOp,convert,run_underlying hu1,run_underlying hu2,h1,Conv.intToInt]) (by simp only[AQ,A8])
     ·rename_i k1 k2 k3 lo hi m r e1 e2 hx;split at hv
      case isFalse=>simp at hv
      rename_i hk;obtain⟨rfl,g1,g2⟩:=hk;simp at hv;subst hv;rw[hx]at h1;simp only[AQ,A8]at h1;obtain⟨i,i1,i2,i3,hi⟩:=h1;have hu1:P.underlying src=some (.int k1):=(by unfold J9 at e1;split at e1<;>simp_all);have hu2:P.underlying dst'=some (.int .i64):=(by unfold J9 at e2;split at e2<;>simp_all);have hw:IntKind.i64.wrap i=i:=IntWalk.i64_in _ ⟨by omega,by omega⟩;exact Cp.pure (v:= .int .i64 i) sm (by simp[execOp,convert,run_underlying hu1,run_underlying hu2,hi,Conv.intToInt,hw]) (by simp only[AQ,A8];exact⟨i,i1,i2,i3,rfl⟩)
     ·simp at hv
 case makeInterface t x=>
  simp only[AT]at he;split at he
  ·simp at he
  ·rename_i hk;split at he
   ·rename_i v hx;simp only[Ak,Ar]at he;obtain⟨rfl,rfl⟩:=he;have h1:=rep x;rw[hx]at h1;simp only[AQ,A8]at h1;obtain⟨d,hd⟩:=TO (P:=P) (t:=t) (λe=>hk (.inr e));have hni: ∀ ms,d≠ .interface ms:=λms e=>hk (.inl (by simp[kT,hd,e]));refine Cp.pure (v:= .iface t v) sm ?_ (by simp only[AQ,A8]);simp only[execOp,Instr.makeInterface,Sem.run_bind,run_underlying hd,Result.andThen_ok,h1];cases d<;>first|rfl|exact absurd rfl (hni _)
   ·simp at he
 case makeMap t rv=>
  cases rv with
  |some x=>simp[AT]at he
  |none=>
   simp only[AT,Ak,Ar]at he;obtain⟨rfl,rfl⟩:=he;obtain⟨v,w',β',g1,g2,g3,g4⟩:=Yu (P:=P) sm t;exact⟨_,v,w',β',by simp only[execOp,Of,Sem.run_bind,g1,Result.andThen_ok];rfl,.inl rfl,g2,g3,g4⟩
 case slice t x lo hi mx=>
  cases mx with
  |none=>
   simp only[AT]at he;cases ha:I4 (A5 s) lo with
   |none=>simp[ha]at he
   |some al=>
    cases hb:I4 (A5 s) hi with
    |none=>simp[ha,hb]at he
    |some bl=>
     simp only[ha,hb,D2]at he;have q1:=TW hs ha;have q2:=TW hs hb;split at he
     ·cases hz:DK P t with
      |none=>simp[hz]at he
      |some zb=>
       simp only[hz,D2]at he;cases hq:MR zb.1 (A5 s x) h al bl with
       |none=>simp[hq]at he
       |some q=>
        simp only[hq,Ba,Ak,Ar]at he;obtain⟨rfl,rfl⟩:=he;obtain⟨v,g1,g2⟩:=Yf (P:=P) sm hz q1 q2 hq (rep x);exact Cp.pure sm (by simp only[execOp,Of,Sem.run_bind,g1,Result.andThen_ok];rfl) g2
     ·split at he
      ·rename_i hk;cases hq:MT (A5 s x) al bl with
       |none=>simp[hq]at he
       |some q=>
        simp only[hq,Ba,Ak,Ar]at he;obtain⟨rfl,rfl⟩:=he;obtain⟨v,g1,g2⟩:=Yg (P:=P) hk q1 q2 hq (rep x);exact Cp.pure sm (by simp only[execOp,Of,Sem.run_bind,g1,Result.andThen_ok];rfl) g2
      ·simp at he
  |some mx=>
   cases lo with
   |some lo=>simp[AT]at he
   |none=>
    cases hi with
    |none=>simp[AT]at he
    |some hi=>
     simp only[AT]at he;cases hz:DK P t with
     |none=>simp[hz]at he
     |some zb=>
      simp only[hz,D2]at he;split at he
      case isFalse=>
       cases hb:Gp (A5 s hi)with
       |none=>simp[hb]at he
       |some b=>
        cases hcc:Gp (A5 s mx)with
        |none=>simp[hb,hcc]at he
        |some c=>
         simp only[hb,hcc,D2]at he;cases hq:Om b c (A5 s x)with
         |none=>simp[hq]at he
         |some q=>
          simp only[hq,Ba,Ak,Ar]at he;obtain⟨rfl,rfl⟩:=he;obtain⟨k1,e1⟩:=NW hb (rep hi);obtain⟨k2,e2⟩:=NW hcc (rep mx);obtain⟨v,g1,g2⟩:=Yi (P:=P) (w:=w) hz e1 e2 hq (rep x);exact Cp.pure sm (by simp only[execOp,Of,Ba,Sem.run_bind,g1,Result.andThen_ok];rfl) g2
      rename_i hc;simp only[Ak,Ar]at he;obtain⟨rfl,rfl⟩:=he;have zero: ∀ y,Jg (A5 s) (some y)=true-> ∃ k,a.eval y= .int k 0:=by
       intro y hy;simp only[Jg]at hy;split at hy
       ·rename_i k n hk;have hn:n=0:=NB hy;subst hn;have h1:=rep y;rw[hk]at h1;simp only[AQ,A8]at h1;exact⟨k,h1⟩
       ·simp at hy
      obtain⟨k1,e1⟩:=zero hi hc.1;obtain⟨k2,e2⟩:=zero mx hc.2.1;obtain⟨v,g1,g2⟩:=Yh (P:=P) (w:=w) hz e1 e2 hc.2.2 (rep x);exact Cp.pure sm (by simp only[execOp,Of,Ba,Sem.run_bind,g1,Result.andThen_ok];rfl) g2
 case fieldAddr t x f=>
  simp only[AT]at he;cases ho:BN P t f with
  |none=>simp[ho]at he
  |some o=>
   simp only[ho,D2]at he;cases hf:MQ o.1 o.2.1 (A5 s x)with
   |none=>simp[hf]at he
   |some q=>
    simp only[hf,Ba,Ak,Ar]at he;obtain⟨rfl,rfl⟩:=he;obtain⟨v,g1,g2⟩:=Yc (P:=P) ho hf (rep x);exact Cp.pure sm (by simp only[execOp,Sem.run_bind,g1,Result.andThen_ok];rfl) g2
 case indexAddr t x i=>
  simp only[AT]at he;cases hn:Gp (A5 s i)with
  |none=>simp[hn]at he
  |some n=>
   simp only[hn,D2]at he;obtain⟨k,hk⟩:=NW hn (rep i);split at he
   ·cases hz:DK P t with
    |none=>simp[hz]at he
    |some zb=>
     simp only[hz,D2]at he;cases hi:Gq h zb.1 (A5 s x) n with
     |none=>simp[hi]at he
     |some q=>
      simp only[hi,Ba,Ak,Ar]at he;obtain⟨rfl,rfl⟩:=he;obtain⟨v,g1,g2⟩:=Ya (P:=P) (k:=k) sm hz hi (rep x);exact Cp.pure sm (by simp only[execOp,hk,Sem.run_bind,g1,Result.andThen_ok];rfl) g2
   ·cases hz:KN P t with
    |none=>simp[hz]at he
    |some na=>
     simp only[hz,D2]at he;cases hi:LJ na.1 na.2 (A5 s x) n with
     |none=>simp[hi]at he
     |some q=>
      simp only[hi,Ba,Ak,Ar]at he;obtain⟨rfl,rfl⟩:=he;obtain⟨v,g1,g2⟩:=Yb (P:=P) (w:=w) (k:=k) hz hi (rep x);exact Cp.pure sm (by simp only[execOp,hk,Sem.run_bind,g1,Result.andThen_ok];rfl) g2
 case index t x i=>
  simp only[AT]at he;cases hn:Gp (A5 s i)with
  |none=>simp[hn]at he
  |some n=>
   simp only[hn,D2]at he;obtain⟨k,hk⟩:=NW hn (rep i);split at he
   ·rename_i st hx;split at he
    case isFalse=>simp at he
    rename_i hc;cases hb:st[n.toNat]? with
    |none=>simp[hb]at he
    |some b=>
     simp only[hb,Ba,Ak,Ar]at he;obtain⟨rfl,rfl⟩:=he;have h1:=rep x;rw[hx]at h1;simp only[AQ,A8]at h1;have hu:P.underlying t=some .string:=by
      have hk3:=hc.1;unfold kT at hk3;split at hk3<;>first|assumption|(simp at hk3)
     exact Cp.pure (v:= .int .u8 b.toNat) sm (by simp[execOp,hk,h1,Instr.index,asIntOf,run_underlying hu,hc.2,hb]) (by simp only[AQ,A8])
   ·rename_i cs hx;cases ho:NM P t with
    |none=>simp[ho]at he
    |some na=>
     simp only[ho,D2]at he;split at he
     case isFalse=>simp at he
     rename_i h0;cases hf:JA na.2.2 na.2.1 (cs.drop (n.toNat*na.2.1))with
     |none=>simp[hf]at he
     |some q=>
      simp only[hf,Ba,Ak,Ar]at he;obtain⟨rfl,rfl⟩:=he;have h1:=rep x;rw[hx]at h1;obtain⟨v,g1,g2⟩:=Ye (P:=P) (k:=k) ho h0 hf h1;exact Cp.pure sm (by simp only[execOp,hk,Sem.run_bind,g1,Result.andThen_ok];rfl) g2
   ·simp at he
 case lookup t x k ok=>
  simp only[AT]at he;cases hm:Jd P t with
  |none=>simp[hm]at he
  |some m=>
   simp only[hm,D2]at he;split at he
   ·rename_i kv es hkv hes;split at he
    case isFalse=>simp at he
    rename_i hk;cases hf:HZ kv es with
    |none=>simp[hf]at he
    |some rr=>
     simp only[hf,Ba,Ak,Ar]at he;obtain⟨rfl,rfl⟩:=he;have h1:=rep k;rw[hkv]at h1;simp only[AQ,A8]at h1;obtain⟨v,g1,g2⟩:=Yq (P:=P) (ok:=ok) sm hm hes hk hf (rep x);exact Cp.pure (v:=v) sm (by simp only[execOp,h1,Sem.run_bind,g1,Result.andThen_ok];rfl) g2
   ·simp at he
 case mapUpdate t x k y=>
  simp only[AT]at he;cases hm:Jd P t with
  |none=>simp[hm]at he
  |some m=>
   simp only[hm,D2]at he;split at he
   ·rename_i kv id hkv hid;split at he
    ·rename_i es hob;split at he
     case isFalse=>simp at he
     rename_i hk;cases hp:I3 kv (A5 s y) es with
     |none=>simp[hp]at he
     |some es'=>
      simp only[hp,Ba,Ak,Ar]at he;obtain⟨rfl,rfl⟩:=he;have h1:=rep k;rw[hkv]at h1;simp only[AQ,A8]at h1;have h2:=rep x;rw[hid]at h2;obtain⟨w',g1,g2,g3⟩:=Yt (P:=P) sm hm hob hk hp h2 (rep y);exact⟨.skip,undef,w',β,by simp[execOp,h1,g1],.inr ⟨rfl,rfl⟩,g2,g3,by simp only[AQ,A8]⟩
    ·simp at he
   ·simp at he
 case typeAssert x t1 t ok=>
  cases ok with
  |false=>simp[AT]at he
  |true=>
   simp only[AT]at he;split at he
   ·simp at he
   ·rename_i hk;obtain⟨d,hd⟩:=TO (P:=P) (t:=t) (λe=>hk (.inr e));have hni: ∀ ms,d≠ .interface ms:=λms e=>hk (.inl (by simp[kT,hd,e]));have h1:=rep x;split at he
    ·rename_i u v hx;rw[hx]at h1;simp only[AQ,A8]at h1;split at he
     ·rename_i hut;simp only[Ak,Ar]at he;obtain⟨rfl,rfl⟩:=he;refine Cp.pure (v:= .tuple #[v,.bool true]) sm ?_ (by simp only[AQ,A8];exact⟨[v,.bool true],rfl,by simp[AS,A8]⟩);simp only[execOp,h1,Instr.typeAssert,Sem.run_bind,run_underlying hd,Result.andThen_ok,hut];cases d<;>first|exact absurd rfl (hni _)|simp
     ·rename_i hut;unfold LF at he;cases hi:P.info? t with
      |none=>simp[hi]at he
      |some i=>
       cases hz:i.zero with
       |none=>simp[hi,hz]at he
       |some z=>
        simp[hi,hz]at he;obtain⟨rfl,rfl⟩:=he;refine Cp.pure (v:= .tuple #[z,.bool false]) sm ?_ (by simp only[AQ,A8];exact⟨[z,.bool false],rfl,by simp only[AS,A8];exact⟨Ou _,trivial,trivial⟩⟩);simp only[execOp,h1,Instr.typeAssert,Sem.run_bind,run_underlying hd,Result.andThen_ok];cases d<;>first|exact absurd rfl (hni _)|simp[hut,zeroValue,typeInfo,hi,hz]
    ·rename_i hx;rw[hx]at h1;simp only[AQ,A8]at h1;unfold LF at he;cases hi:P.info? t with
     |none=>simp[hi]at he
     |some i=>
      cases hz:i.zero with
      |none=>simp[hi,hz]at he
      |some z=>
       simp[hi,hz]at he;obtain⟨rfl,rfl⟩:=he;refine Cp.pure (v:= .tuple #[z,.bool false]) sm ?_ (by simp only[AQ,A8];exact⟨[z,.bool false],rfl,by simp only[AS,A8];exact⟨Ou _,trivial,trivial⟩⟩);simp only[execOp,h1,Instr.typeAssert,Sem.run_bind,run_underlying hd,Result.andThen_ok];cases d<;>first|exact absurd rfl (hni _)|simp[zeroValue,typeInfo,hi,hz]
    ·simp at he
 case extract x i=>
  simp only[AT]at he;split at he
  ·rename_i vs hx;cases hv:vs[i]? with
   |none=>simp[hv]at he
   |some v=>
    simp only[hv,Ba,Ak,Ar]at he;obtain⟨rfl,rfl⟩:=he;have h1:=rep x;rw[hx]at h1;simp only[AQ,A8]at h1;obtain⟨xs,e1,e2⟩:=h1;obtain⟨u,g1,g2⟩:=e2.get hv;exact Cp.pure (v:=u) sm (by simp[execOp,e1,Instr.extract,g1]) g2
  ·simp at he
 case call c=>
  obtain⟨callee,args,ts⟩:=c;cases callee with
  |value f=>simp[AT]at he
  |invoke x m=>simp[AT]at he
  |builtin b=>
   cases b
   case len=>
    obtain⟨args⟩:=args;obtain⟨ts⟩:=ts;simp only[AT]at he;split at he
    case h_2=>simp at he
    rename_i x t;split at he
    case isFalse=>simp at he
    rename_i hk;cases hl:Es h (A5 s x)with
    |none=>simp[hl]at he
    |some n=>
     simp only[hl,Ba,Ak,Ar]at he;obtain⟨rfl,rfl⟩:=he;have h1:=rep x;refine Cp.pure (v:= .int .i64 (n:Int)) sm ?_ (by simp only[AQ,A8]);have hlen:=Z4 (P:=P) sm type hk hl h1;simp only[execOp,resolve,invoke,builtin,Sem.run_bind,Sem.run_pure,Result.andThen_ok,YB,BS,B5];rw[hlen];try rfl
   case append=>
    obtain⟨args⟩:=args;obtain⟨ts⟩:=ts;simp only[AT]at he;split at he
    case h_2=>simp at he
    rename_i x y t u;split at he
    case isFalse=>simp at he
    rename_i htu;subst htu;cases hz:DK P t with
    |none=>simp[hz]at he
    |some zb=>
     simp only[hz,D2]at he;obtain⟨v,w',β',g1,g2,g3,g4⟩:=YZ (P:=P) sm type hz he (rep x) (rep y);exact⟨.value v,v,w',β',by simp only[execOp,resolve,invoke,builtin,Sem.run_bind,Sem.run_pure,Result.andThen_ok,YB,BS,B5,g1],.inl rfl,g2,g3,g4⟩
   all_goals simp[AT]at he
 case makeFunc fn first caps=>
  cases fn<;>(try(simp[AT]at he;done));simp only[AT,Ak,Ar]at he;obtain⟨rfl,rfl⟩:=he;have hl: ∀ l:List Operand,AS β h.next (Fz β h w) w (l.map (A5 s)) (l.map a.eval):=λl=>by
   rw[I6];refine⟨by simp,λj p v hp hv=>?_⟩;rw[IY]at hp hv;cases hj:l[j]? with
   |none=>simp[hj]at hp
   |some x=>
    simp[hj]at hp hv;subst hp;subst hv;exact rep x
  rename_i f;obtain⟨first⟩:=first
  obtain⟨caps⟩:=caps;refine Cp.pure (v:= .func (.func f) (first.map a.eval).toArray (caps.map a.eval).toArray) sm ?_ (by simp only[AQ,A8];exact⟨_,_,rfl,hl _,hl _⟩);simp only[execOp,Instr.makeFunc,Sem.run_bind,Sem.run_pure,Result.andThen_ok,YB]
 all_goals simp[AT]at he
end
end Go.AM
namespace Go.AM
section
variable {P:Program}{ow:Nat->Bool}{wf:FuncId->Bool}{β:BH}{h:A0}{w:World}{s:A9}{a:Act}{n:Nat}
structure St(n:Nat)(β:BH)(s:A9)(h:A0)(a:Act)(w:World):Prop where
 sim:Ay β h w
 rep: ∀ t,AQ β h w (s t) (a.tmps.getD t undef)
 size:a.tmps.size=n
 defers:a.defers=[]
def To(n:Nat)(β:BH)(h:A0)(w:World)(K:A9->A0->Prop)(a':Act)(w':World):Prop:=
 ∃ s' h' β',K s' h'/\St n β' s' h' a' w'/\BM β h w β' h' w'
theorem To.mono{β':BH}{h':A0}{w':World}{K K':A9->A0->Prop}(e:BM β h w β' h' w')(hk: ∀ s h,K s h->K' s h){a'':Act}{w'':World}(t:To n β' h' w' K a'' w''):To n β h w K' a'' w'':=by
 obtain⟨s,h2,β2,k,st,e2⟩:=t;exact⟨s,h2,β2,hk _ _ k,st,e.trans e2⟩
theorem St.put{β':BH}{h':A0}{w':World}(st:St n β s h a w)(sm:Ay β' h' w')(e:BM β h w β' h' w'){d:Option Nat}(hd:d.all (λd=>decide (d<n))=true){r:PV}{v:Value}(hr:AQ β' h' w' r v):
  St n β' (AZ s d r) h' (a.put d v) w':=by
 refine⟨sm,λt=>?_,?_,?_⟩
 ·cases d with
  |none=>simp only[AZ,Act.put];exact e.rep (st.rep t)
  |some d=>
   simp at hd;simp only[AZ,CX,Act.put];by_cases ht:t=d
   ·subst ht;rw[AG rfl];have:t<a.tmps.size:=(by rw[st.size];exact hd);simpa[DJ,this]using hr
   ·rw [A4 ht];have:=e.rep (st.rep t);simpa[DJ,MG (Ne.symm ht)]using this
 ·cases d with
  |none=>exact st.size
  |some d=>simp[Act.put,st.size]
 ·cases d with
  |none=>exact st.defers
  |some d=>simp[Act.put,st.defers]
theorem Cp.wp(st:St n β s h a w){o:Oper}{r:PV}{h':A0}(hd:o.dst.all (λd=>decide (d<n))=true)(hr:Cp P a o β h w r h'){K:Act->World->Prop}{Q:Exit->Act->World->Prop}
  (hk: ∀ a' w',To n β h w (λs' h2=>s'=AZ s o.dst r/\h2=h') a' w'->K a' w'):o.wp P a w K Q:=by
 obtain⟨nx,v,w',β',h1,h2,sm,e,hv⟩:=hr;unfold Oper.wp;rw[h1];have st':=st.put sm e hd hv;rcases h2 with rfl|⟨rfl,rfl⟩
 ·exact hk _ _ ⟨_,_,β',⟨rfl,rfl⟩,st',e⟩
 ·exact hk _ _ ⟨_,_,β',⟨rfl,rfl⟩,st',e⟩
theorem Z5{ρ:Operand->PV}{op:Op}{f:FuncId}{args:List PV}(hc:callee ρ op=some (f,args)):
  ∃ fo as ts,op= .call {callee:= .value fo,args:=as,argTypes:=ts}/\((args=as.toList.map ρ/\ρ fo= .sc (.func (.func f) #[] #[]))\/ ∃ first caps,ρ fo= .fn f first caps/\args=first++(as.toList.map ρ++caps)):=by
 unfold callee at hc;split at hc
 ·rename_i fo as ts;split at hc
  ·rename_i g first captured hf
   split at hc
   ·rename_i hfc;simp only[Ak,Ar]at hc;obtain⟨rfl,rfl⟩:=hc;obtain⟨rfl,rfl⟩:=hfc;exact⟨fo,as,ts,rfl,.inl ⟨rfl,hf⟩⟩
   ·simp at hc
  ·rename_i g first caps hf
   simp only[Ak,Ar]at hc;obtain⟨rfl,rfl⟩:=hc;exact⟨fo,as,ts,rfl,.inr ⟨first,caps,hf,rfl⟩⟩
  ·simp at hc
 ·simp at hc
theorem Z6(st:St n β s h a w){op:Op}{f:FuncId}{args:List PV}(hc:callee (A5 s) op=some (f,args)):
  ∃ fo as ts, ∃ xs ys:List Value,op= .call {callee:= .value fo,args:=as,argTypes:=ts}/\a.eval fo= .func (.func f) xs.toArray ys.toArray/\AS β h.next (Fz β h w) w args (xs++(as.toList.map a.eval++ys)):=by
 obtain⟨fo,as,ts,hop,hh⟩:=Z5 hc;have hl: ∀ l:List Operand,AS β h.next (Fz β h w) w (l.map (A5 s)) (l.map a.eval):=λl=>by
  rw[I6];refine⟨by simp,λj p v hp hv=>?_⟩;rw[IY]at hp hv;cases hj:l[j]? with
  |none=>simp[hj]at hp
  |some x=>
   simp[hj]at hp hv;subst hp;subst hv;exact KP st.rep x
 have Jf: ∀ (l:List PV)(l':List Value)(m:List PV)(m':List Value),AS β h.next (Fz β h w) w l l'->AS β h.next (Fz β h w) w m m'->AS β h.next (Fz β h w) w (l++m) (l'++m'):=by
  intro l
  induction l with
  |nil=>intro l' m m' h1 h2;cases l' with|nil=>exact h2|cons=>simp[AS]at h1
  |cons p l ih=>
   intro l' m m' h1 h2;cases l' with
   |nil=>simp[AS]at h1
   |cons q l'=>
    simp only[AS]at h1;simp only[C3,AS];exact⟨h1.1,ih l' m m' h1.2 h2⟩
 have h1:=KP st.rep fo;rcases hh with⟨rfl,hf⟩|⟨first,caps,hf,rfl⟩
 ·rw [hf]at h1;simp only[AQ,A8]at h1;exact⟨fo,as,ts,[],[],hop,h1,by simpa using hl as.toList⟩
 ·rw [hf]at h1;simp only[AQ,A8]at h1;obtain⟨xs,ys,g1,g2,g3⟩:=h1;exact⟨fo,as,ts,xs,ys,hop,g1,Jf _ _ _ _ g2 (Jf _ _ _ _ (hl as.toList) g3)⟩
theorem A6.wp{o:Oper}{f:FuncId}{args:List PV}(st:St n β s h a w)(hd:o.dst.all (λd=>decide (d<n))=true)(hc:callee (A5 s) o.op=some (f,args)){K':PV->A0->Prop}
  (hp:A6 P f args h K'){K:Act->World->Prop}{Q:Exit->Act->World->Prop}
  (hk: ∀ a' w',To n β h w (λs' h2=> ∃ r,K' r h2/\s'=AZ s o.dst r) a' w'->K a' w'):o.wp P a w K Q:=by
 obtain⟨fo,as,ts,xs,ys,hop,h1,hrep⟩:=Z6 st hc;rcases hp β w _ st.sim hrep with⟨hb,hcl⟩|⟨v,w',hrun,r,h',β',v',hv,hK,sm,hr,e⟩
 case inr=>
  simp only[Ending.returned.injEq]at hv;subst hv;refine Cp.wp st hd ⟨.value v,v,w',β',?_,.inl rfl,sm,e,hr⟩ (λa' w2 ht=>hk _ _ (ht.mono BM.refl ?_))
  ·simp only[execOp,hop,resolve,h1,Deferred.ofValue,Sem.run_bind,Sem.run_pure,Result.andThen_ok,invoke];obtain⟨as⟩:=as;simpa[HW]using hrun
  ·rintro s' h2 ⟨rfl,rfl⟩;exact⟨r,hK,rfl⟩
 unfold Ai at hb;cases hfn:P.funcs[f]? with
 |none=>simp[hfn]at hb
 |some fn=>
  simp[hfn]at hb;have hbody:fn.body.isNone=false:=by cases hbb:fn.body<;>simp[hbb]at hb⊢
  have hrun:(execOp a.eval o).run P w= .ok (.enter f (xs++(as.toList.map a.eval++ys)).toArray) w:=by
   simp only[execOp,hop,resolve,h1,Deferred.ofValue,Sem.run_bind,Sem.run_pure,Result.andThen_ok,invoke,callFunc,run_program,hfn];obtain⟨as⟩:=as;simp[hbody,hb.1]
  unfold Oper.wp;rw[hrun];simp only[Oper.upon];refine Calls.mono hcl (λe w' hq=>?_);obtain⟨r,h',β',v,rfl,hK,sm,hr,e⟩:=hq;exact hk _ _ ⟨_,h',β',⟨r,hK,rfl⟩,st.put sm e hd hr,e⟩
theorem Tw{o:Oper}{K':A9->A0->Prop}(st:St n β s h a w)(hd:o.dst.all (λd=>decide (d<n))=true)(ho:CQ P ow o K' s h){K:Act->World->Prop}{Q:Exit->Act->World->Prop}
  (hk: ∀ a' w',To n β h w K' a' w'->K a' w'):o.wp P a w K Q:=by
 unfold CQ at ho;split at ho
 ·rename_i f args hc;refine A6.wp st hd hc ho (λa' w' ht=>hk a' w' (ht.mono BM.refl ?_));rintro s' h' ⟨r,hr,rfl⟩;exact hr
 ·split at ho
  ·rename_i r h' he;refine Cp.wp st hd (Tv st.sim st.rep o he) (λa' w' ht=>hk a' w' (ht.mono BM.refl ?_));rintro s' h2 ⟨rfl,rfl⟩;exact ho
  ·exact ho.elim
theorem Z7(st:St n β s h a w){t:Nat}{v:Value}(hv:s t= .sc v)(hne:v≠undef):a.tmps[t]? =some v:=by
 have h1:=st.rep t;rw[hv]at h1;simp only[AQ,A8]at h1;cases ht:a.tmps[t]? with
 |none=>rw[DJ,ht]at h1;simp at h1;exact absurd h1.symm hne
 |some u=>rw[DJ,ht]at h1;simp at h1;rw[h1]
theorem P0(st:St n β s h a w){ops:List Oper}{o:Oper}{b:Bool}(hw:CN ops s o=some b):Region.wanted o (yielded ops.toArray a.tmps)=b:=by
 unfold CN at hw;unfold Region.wanted;cases hg:o.guard with
 |none=>simp[hg]at hw;simp[hw]
 |some gw=>
  obtain⟨g,want⟩:=gw;simp only[hg]at hw;cases ht:(ops[g]?).bind (·.dst)with
  |none=>simp[ht]at hw
  |some t=>
   simp only[ht]at hw;have hy:yielded ops.toArray a.tmps g=match a.tmps[t]? with|some (.bool b)=>some b|_=>none:=by
    simp only[yielded,IX,ht,D2];rfl
   simp only[hy];split at hw
   ·rename_i b' hs;simp at hw;rw[Z7 st hs (by simp[undef])];subst hw;cases b'<;>cases want<;>rfl
   ·rename_i vs hs;simp at hw;subst hw;have h1:=st.rep t;rw[hs]at h1;simp only[AQ,A8]at h1;cases hte:a.tmps[t]? with
    |none=>rfl
    |some u=>rw[DJ,hte]at h1;simp at h1;subst h1;rfl
   ·simp at hw
theorem St.undef(st:St n β s h a w){d:Option Nat}(hd:d.all (λd=>decide (d<n))=true):St n β (AZ s d (.sc Go.undef)) h (a.put d Go.undef) w:=
 st.put st.sim BM.refl hd (by simp only[AQ,A8])
theorem Qr{ops:List Oper}{Q:Exit->Act->World->Prop}: ∀ (l:List Oper){K':A9->A0->Prop}{β:BH}{s:A9}{h:A0}{a:Act}{w:World},St n β s h a w->EH P ow n ops l K' s h->
  (∀ a' w',To n β h w K' a' w'->Q .normal a' w')->wpList P ops.toArray Q l a w
 |[],K',β,s,h,a,w,st,hl,hk=>hk a w ⟨s,h,β,hl,st,BM.refl⟩
 |o::rest,K',β,s,h,a,w,st,hl,hk=>by
  simp only[EH]at hl;obtain⟨hd,hl⟩:=hl;split at hl
  ·exact hl.elim
  ·rename_i b hb;have hwd:=P0 st hb;unfold wpList;rw[hwd];cases b with
   |true=>
    simp only[AH]at hl⊢;refine .inl (Tw st hd hl (λa' w' ht=>?_));obtain⟨s',h',β',hk',st',e⟩:=ht;exact Qr rest st' hk' (λa'' w'' ht'=>hk a'' w'' (ht'.mono e (λ_ _ x=>x)))
   |false=>
    simp only[BG,AP]at hl⊢;exact Qr rest (st.undef hd) hl hk
end
end Go.AM
namespace Go.AM
section
variable {P:Program}{ow:Nat->Bool}{wf:FuncId->Bool}{n:Nat}
theorem Tx{w:Bool}{op:Op}{s s':A9}{h:A0}(hs: ∀ t,.tmp t∈op.operands->s t=s' t):AT P w op (A5 s) h=AT P w op (A5 s') h:=by
  have hp: ∀ x∈op.operands,A5 s x=A5 s' x:=by
    intro x hx;cases x<;>first|rfl|exact hs _ hx
  have pairs: ∀ ps:Array (Nat × Operand),(∀ x∈(ps.toList.map (·.2)),A5 s x=A5 s' x)->(ps.toList.map λp=>(p.1,A5 s p.2))=(ps.toList.map λp=>(p.1,A5 s' p.2)):=λps hh=>
    NC λp hm=>by rw[hh p.2 (Er.2 ⟨p,hm,rfl⟩)]
  have opt: ∀ x:Option Operand,(∀ y,x=some y->A5 s y=A5 s' y)->I4 (A5 s) x=I4 (A5 s') x:=by
    intro x hh;cases x with
    |none=>rfl
    |some y=>simp only[I4,hh y rfl]
  have optz: ∀ x:Option Operand,(∀ y,x=some y->A5 s y=A5 s' y)->Jg (A5 s) x=Jg (A5 s') x:=by
    intro x hh;cases x with
    |none=>rfl
    |some y=>simp only[Jg,hh y rfl]
  cases op
  case build t ps=>simp only[AT,pairs ps λx hx=>hp x (by simpa[Op.operands]using hx)]
  case buildSlice t l ps=>simp only[AT,pairs ps λx hx=>hp x (by simpa[Op.operands]using hx)]
  case slice t x lo hi mx=>
    have e0:A5 s x=A5 s' x:=hp x (by simp[Op.operands]);have e1: ∀ y,lo=some y->A5 s y=A5 s' y:=λy hy=>hp y (by simp[Op.operands,hy]);have e2: ∀ y,hi=some y->A5 s y=A5 s' y:=λy hy=>hp y (by simp[Op.operands,hy]);have e3: ∀ y,mx=some y->A5 s y=A5 s' y:=λy hy=>hp y (by simp[Op.operands,hy]);cases mx with
    |none=>simp only[AT,e0,opt lo e1,opt hi e2]
    |some m=>
      cases lo with
      |some l=>rfl
      |none=>
        cases hi with
        |none=>rfl
        |some hh=>simp only[AT,e0,optz _ e2,optz _ e3,e2 hh rfl,e3 m rfl]
  case makeMap t r=>cases r<;>rfl
  case typeAssert x t1 t2 ok=>
    have e0:A5 s x=A5 s' x:=hp x (by simp[Op.operands]);cases ok<;>simp only[AT,e0]
  case call c=>
    obtain⟨cl,⟨args⟩,⟨ts⟩⟩:=c;cases cl with
    |value f=>rfl
    |invoke f m=>rfl
    |builtin b=>
      have ha: ∀ x∈args,A5 s x=A5 s' x:=λx hx=>hp x (by simp[Op.operands,Call.operands,hx]);cases b<;>try rfl
      · match args,ts,ha with
        |[x,y],[t,u],ha=>simp only[AT,ha x (by simp),ha y (by simp)]
        |[],_,_=>rfl
        |[_],_,_=>rfl
        |_::_::_::_,_,_=>rfl
        |[_,_],[],_=>rfl
        |[_,_],[_],_=>rfl
        |[_,_],_::_::_::_,_=>rfl
      · match args,ts,ha with
        |[x],[t],ha=>simp only[AT,ha x (by simp)]
        |[],_,_=>rfl
        |_::_::_,_,_=>rfl
        |[_],[],_=>rfl
        |[_],_::_::_,_=>rfl
      all_goals
        match args,ha with
        |[x,y],ha=>simp only[AT,ha x (by simp),ha y (by simp)]
        |[],_=>rfl
        |[_],_=>rfl
        |_::_::_::_,_=>rfl
  case makeFunc fn first caps=>
    have e1:first.toList.map (A5 s)=first.toList.map (A5 s'):=NC λx hx=>hp x (by simp only[Op.operands,YC];exact .inl (Hy.1 hx))
    have e2:caps.toList.map (A5 s)=caps.toList.map (A5 s'):=NC λx hx=>hp x (by simp only[Op.operands,YC];exact .inr (Hy.1 hx));cases fn<;>first|rfl|simp only[AT,e1,e2]
  all_goals first
    |rfl
    | (simp only [Op.operands] at hp
       simp only[AT]
       simp_all)
theorem Z8{op:Op}{s s':A9}(hs: ∀ t,.tmp t∈op.operands->s t=s' t):callee (A5 s) op=callee (A5 s') op:=by
 cases op<;>try rfl
 case call c=>
  obtain⟨cl,as,ts⟩:=c;cases cl with
  |value f=>
   have hf:A5 s f=A5 s' f:=(by cases f<;>first|rfl|exact hs _ (by simp[Op.operands,Call.operands]));have ha:as.toList.map (A5 s)=as.toList.map (A5 s'):=NC λx hx=>by
    cases x<;>first|rfl|exact hs _ (by simp only[Op.operands,Call.operands,YC];right;exact Hy.1 hx)
   simp only[callee,hf,ha]
  |invoke f m=>rfl
  |builtin b=>rfl
theorem LO{o:Oper}{s s':A9}{h h':A0}{v:PV}(hs: ∀ t,.tmp t∈o.op.operands->s t=s' t)(hd:Af P ow o (A5 s) h v h'):Af P ow o (A5 s') h v h':=by
 unfold Af at hd⊢;rw[← Z8 hs, ← Tx hs];cases hc:callee (A5 s) o.op with
 |none=>rw[hc]at hd;exact hd
 |some fa=>
  obtain⟨f,args⟩:=fa;rw[hc]at hd;exact hd
theorem Qs(f:Array Nat->Oper->Array Nat)(g:(Nat->Nat)->Oper->Nat)(hf: ∀ acc o,f acc o=acc.push (g (λm=>acc.getD m 0) o)): ∀ (l:List Oper)(acc:Array Nat),
  (l.foldl f acc).size=acc.size+l.length/\(∀ j,j<acc.size->(l.foldl f acc).getD j 0=acc.getD j 0)/\
  ∀ (j:Nat)(o:Oper),l[j]? =some o->(l.foldl f acc).getD (acc.size+j) 0=g (λm=>if m<acc.size+j then(l.foldl f acc).getD m 0 else 0) o
 |[],acc=>by simp
 |o::l,acc=>by
  obtain⟨h1,h2,h3⟩:=Qs f g hf l (f acc o);have hsz:(f acc o).size=acc.size+1:=by rw[hf];simp
  have hlow: ∀ j,j<acc.size->(l.foldl f (f acc o)).getD j 0=acc.getD j 0:=by
   intro j hj;rw[h2 j (by omega),hf];rw[DJ,DJ,Array.getElem?_push_lt hj,ND hj]
  refine⟨by simp only[L7,h1,hsz,Aw];omega,λj hj=>by simpa only[L7]using hlow j hj,λj q hq=>?_⟩;cases j with
  |zero=>
   simp at hq;subst hq;simp only[L7,Fi];rw[h2 _ (by omega),hf];have e1:(acc.push (g (λm=>acc.getD m 0) o)).getD acc.size 0=g (λm=>acc.getD m 0) o:=(by simp[DJ]);rw[e1];congr 1;funext m;by_cases hm:m<acc.size
   ·rw [AG hm, ← hlow m hm,hf]
   ·rw [A4 hm,DJ,Array.getElem?_eq_none (by omega)];try rfl
  |succ j=>
   have:=h3 j q (by simpa using hq);rw[hsz]at this;simp only[L7];rw[show acc.size+(j+1)=acc.size+1+j by omega];exact this
theorem Tz(b:Nat->Nat): ∀ (l:List Edge)(s i:Nat),(l.foldl (λs e=>if Region.binds .any e then s|||2 ^ e.on|||b e.on else s) s).testBit i=true->
  s.testBit i=true\/ ∃ e∈l,Region.binds .any e=true/\(i=e.on\/(b e.on).testBit i=true)
 |[],s,i,h=> .inl h
 |e::l,s,i,h=>by
  simp only[L7]at h;rcases Tz b l _ i h with h1|⟨e',h1,h2,h3⟩
  ·split at h1
   ·rename_i hb;simp only[T7,DG]at h1;rcases h1 with(h1|h1)|h1
    ·exact .inl h1
    ·refine .inr ⟨e,by simp,hb,.inl ?_⟩;rw[Nat.testBit_two_pow]at h1;exact(NB h1).symm
    ·exact .inr ⟨e,by simp,hb,.inr h1⟩
   ·exact .inl h1
  ·exact .inr ⟨e',by simp[h1],h2,h3⟩
theorem MY{ops:List Oper}{i j:Nat}{o:Oper}(ho:ops[j]? =some o)(hp:pre ops i j=true):
  ∃ e∈o.after.toList,Region.binds .any e=true/\(i=e.on\/(e.on<j/\pre ops i e.on=true)):=by
 unfold pre at hp⊢;have hb:Region.before ops.toArray=ops.foldl (λacc o=>acc.push (o.after.foldl (λs e=>if Region.binds .any e then s|||2 ^ e.on|||acc.getD e.on 0 else s) 0)) #[]:=by
  unfold Region.before;rw[← Oe]
 have h3:=(Qs (λacc o=>acc.push (o.after.foldl (λs e=>if Region.binds .any e then s|||2 ^ e.on|||acc.getD e.on 0 else s) 0))
  (λb o=>o.after.toList.foldl (λs e=>if Region.binds .any e then s|||2 ^ e.on|||b e.on else s) 0) (λacc o=>by rw[← Oe]) ops #[]).2.2 j o ho
 simp only[IW,Bw,Be]at h3;rw[← hb]at h3;rw[h3]at hp;rcases Tz (λm=>if m<j then(Region.before ops.toArray).getD m 0 else 0) _ _ _ hp with h1|⟨e,h1,h2,h4⟩
 ·simp at h1
 ·refine ⟨e,h1,h2,h4.imp id (λh5=>?_)⟩;by_cases hj:e.on<j
  ·rw [AG hj]at h5;exact⟨hj,h5⟩
  ·rw [A4 hj]at h5;simp at h5
structure Jl(ow:Nat->Bool)(wf:FuncId->Bool)(ops:List Oper):Prop where
 back: ∀ (j:Nat)(o:Oper),ops[j]? =some o-> ∀ e∈o.after.toList,Region.binds .any e=true->e.on<j
 nosel: ∀ (j:Nat)(o:Oper),ops[j]? =some o-> ∀ cs b,o.op≠ .select cs b
 slot: ∀ (i j:Nat)(q o:Oper),i≠j->ops[i]? =some q->ops[j]? =some o-> ∀ d,q.dst=some d->d∈Ea ops o->pre ops i j=true\/pre ops j i=true
 ww: ∀ (i j:Nat)(q o:Oper),i≠j->ops[i]? =some q->ops[j]? =some o->B0 ow wf q=true->B0 ow wf o=true->pre ops i j=true\/pre ops j i=true
theorem Jl.of{ops:List Oper}(h:JB ow wf ops=true):Jl ow wf ops:=by
 unfold JB at h;rw[Bq]at h;have hm: ∀ (j:Nat)(o:Oper),ops[j]? =some o->_:=λj o ho=>h (o,j) (MI.2 ho);refine⟨λj o ho e he hb=>?_,λj o ho cs b hsel=>?_,λi j q o hij hq ho d hd hl=>?_,λi j q o hij hq ho h1 h2=>?_⟩
 ·have h0:=hm j o ho;simp only[AR,Bq]at h0;have:=h0.1.1 e he;simpa[hb]using this
 ·have h0:=hm j o ho;simp only[AR]at h0;have:=h0.1.2;rw[hsel]at this;simp at this
 ·have h0:=hm j o ho;simp only[AR,Bq]at h0;have:=h0.2 (q,i) (MI.2 hq);simp only[DG,AR,Dv,hd,E5]at this;rcases this with h1|⟨h1,_⟩
  ·exact absurd h1 hij
  ·rcases h1 with(h1|h1)|h1
   ·rw [NF.2 hl]at h1;simp at h1
   ·exact .inl h1
   ·exact .inr h1
 ·have h0:=hm j o ho;simp only[AR,Bq]at h0;have:=h0.2 (q,i) (MI.2 hq);simp only[DG,AR,Dv,h1,h2,E5,L9,Bool.true_eq_false,false_or]at this;rcases this with h3|⟨_,h3⟩
  ·exact absurd h3 hij
  ·exact h3
theorem MZ{ops:List Oper}(hd:Jl ow wf ops): ∀ (j i:Nat),j<ops.length->pre ops i j=true->i<j:=by
 intro j
 induction j using Nat.strongRecOn with
 |_ j ih=>
  intro i hj hp;obtain⟨e,h1,h2,h3⟩:=MY (AU hj) hp;have hlt:=hd.back j _ (AU hj) e h1 h2;rcases h3 with rfl|⟨h4,h5⟩
  ·exact hlt
  ·exact YD (ih e.on h4 i (by omega) h5) h4
def I7(ops:List Oper)(S:Nat->Bool):Prop:= ∀ (j:Nat)(o:Oper),ops[j]? =some o->S j=true-> ∀ e∈o.after.toList,Region.binds .any e=true->S e.on=true
theorem I7.pre{ops:List Oper}{S:Nat->Bool}(hc:I7 ops S): ∀ (j i:Nat),j<ops.length->S j=true->pre ops i j=true->S i=true:=by
 intro j
 induction j using Nat.strongRecOn with
 |_ j ih=>
  intro i hj hs hp;obtain⟨e,h1,h2,h3⟩:=MY (AU hj) hp;have hse:=hc j _ (AU hj) hs e h1 h2;rcases h3 with rfl|⟨h4,h5⟩
  ·exact hse
  ·exact ih e.on h4 i (by omega) hse h5
end
end Go.AM
namespace Go.AM
section
variable {P:Program}{ow:Nat->Bool}{wf:FuncId->Bool}{n:Nat}{ops:List Oper}
def Wd(ow:Nat->Bool)(wf:FuncId->Bool)(ops:List Oper)(sk:Nat->A9)(j:Nat):Prop:= ∃ o,ops[j]? =some o/\B0 ow wf o=true/\CN ops (sk j) o=some true
def Nd(ow:Nat->Bool)(wf:FuncId->Bool)(ops:List Oper)(sk:Nat->A9)(j:Nat)(o:Oper):Prop:=ops[j]? =some o/\B0 ow wf o=false/\CN ops (sk j) o=some true
structure Tr(P:Program)(ow:Nat->Bool)(wf:FuncId->Bool)(n:Nat)(ops:List Oper)(k:Nat)(sk:Nat->A9)(hk:Nat->A0)(vk:Nat->PV):Prop where
 step: ∀ (j:Nat)(o:Oper),k<=j->ops[j]? =some o->o.dst.all (λd=>decide (d<n))=true/\ ∃ b,CN ops (sk j) o=some b/\
  (b=false->sk (j+1)=AZ (sk j) o.dst (.sc undef)/\hk (j+1)=hk j)/\
  (b=true->sk (j+1)=AZ (sk j) o.dst (vk j)/\Af P ow o (A5 (sk j)) (hk j) (vk j) (hk (j+1))/\(B0 ow wf o=false->hk (j+1)=hk j))
 apart: ∀ (i j:Nat)(o:Oper),k<=i->k<=j->Nd ow wf ops sk i o->Wd ow wf ops sk j->
  (i<j->pre ops i j=true\/Af P ow o (A5 (sk i)) (hk (j+1)) (vk i) (hk (j+1)))/\(j<i->pre ops j i=true\/Af P ow o (A5 (sk i)) (hk j) (vk i) (hk j))
def By{α:Type}(k:Nat)(x:α)(f:Nat->α):Nat->α:=λj=>if j=k then x else f j
theorem DC{α:Type}{k:Nat}{x:α}{f:Nat->α}:By k x f k=x:=AG rfl
theorem FV{α:Type}{k j:Nat}{x:α}{f:Nat->α}(h:j≠k):By k x f j=f j:=A4 h
theorem P4{K:A9->A0->Prop}: ∀ (l:List Oper)(k:Nat)(past:List (Nat × (A0->Prop)))(hist:List (Nat × A0))(s:A9)(h:A0),l=ops.drop k->Do P ow wf n ops k l past hist K s h->
  ∃ sk hk vk,sk k=s/\hk k=h/\(K (sk (k+l.length)) (hk (k+l.length)))/\Tr P ow wf n ops k sk hk vk/\
   (∀ x∈past, ∀ j,k<=j->Wd ow wf ops sk j->pre ops x.1 j=true\/x.2 (hk (j+1)))/\
   (∀ x∈hist, ∀ i o,k<=i->Nd ow wf ops sk i o->pre ops x.1 i=true\/Af P ow o (A5 (sk i)) x.2 (vk i) x.2)
 |[],k,past,hist,s,h,hl,hd=>by
  simp only[Do]at hd;have hk:ops.length<=k:=by
   have:=L8 List.length hl;simp at this;omega
  have hno: ∀ (j:Nat)(o:Oper),k<=j->ops[j]? =some o->False:=λj o hj ho=>by
   have:=(BC.1 ho).1;omega
  refine⟨λ_=>s,λ_=>h,λ_=> .emp,rfl,rfl,hd,⟨λj o hj ho=>(hno j o hj ho).elim,λi j o hi _ hn _=>(hno i o hi hn.1).elim⟩,λx _ j hj hw=>?_,λx _ i o hi hn=>(hno i o hi hn.1).elim⟩;obtain⟨o,ho,_⟩:=hw;exact(hno j o hj ho).elim
 |o::rest,k,past,hist,s,h,hl,hd=>by
  have hok:ops[k]? =some o:=by
   have:(ops.drop k)[0]? =some o:=(by rw[← hl];try rfl);simpa using this
  have hrest:rest=ops.drop (k+1):=by
   have:=L8 List.tail hl;simpa using this
  simp only[Do]at hd;obtain⟨hdst,hd⟩:=hd;have Bb: ∀ {sk':Nat->A9}{j:Nat},k+1<=j->(By k s sk') j=sk' j:=λhj=>FV (by omega);have exth: ∀ {hk':Nat->A0}{j:Nat},k+1<=j->(By k h hk') j=hk' j:=λhj=>FV (by omega);split at hd
  ·exact hd.elim
  ·rename_i b hb;cases b with
   |false=>
    simp only[BG,AP]at hd;obtain⟨sk',hk',vk',e1,e2,e3,tr,hp,hh⟩:=P4 rest (k+1) past hist _ _ hrest hd;have hnW:¬ Wd ow wf ops (By k s sk') k:=by
     rintro⟨q,hq,_,hw⟩;rw[hok]at hq;simp at hq;subst hq;rw[DC,hb]at hw;simp at hw
    have hnN: ∀ q,¬ Nd ow wf ops (By k s sk') k q:=by
     rintro q ⟨hq,_,hw⟩;rw[hok]at hq;simp at hq;subst hq;rw[DC,hb]at hw;simp at hw
    have wdE: ∀ j,k+1<=j->Wd ow wf ops (By k s sk') j->Wd ow wf ops sk' j:=by
     intro j hj hw;unfold Wd at hw⊢;rw[Bb hj]at hw;exact hw
    have ndE: ∀ j q,k+1<=j->Nd ow wf ops (By k s sk') j q->Nd ow wf ops sk' j q:=by
     intro j q hj hw;unfold Nd at hw⊢;rw[Bb hj]at hw;exact hw
    have gt: ∀ j,k<=j->Wd ow wf ops (By k s sk') j->k+1<=j:=by
     intro j hj hw;rcases CT k j with h1|h1
     ·exact h1
     ·have:j=k:=(by omega);subst this;exact(hnW hw).elim
    have gtn: ∀ j q,k<=j->Nd ow wf ops (By k s sk') j q->k+1<=j:=by
     intro j q hj hw;rcases CT k j with h1|h1
     ·exact h1
     ·have:j=k:=(by omega);subst this;exact(hnN q hw).elim
    refine⟨By k s sk',By k h hk',vk',DC,DC,?_,⟨λj q hj hq=>?_,λi j q hi hj hn hw=>?_⟩,λx hx j hj hw=>?_,λx hx i q hi hn=>?_⟩
    ·rw [FV (by simp),FV (by simp)];rw[show k+(o::rest).length=k+1+rest.length by simp;omega];exact e3
    ·rcases CT k j with h1|h1
     ·obtain ⟨t1,t2⟩:=tr.step j q h1 hq;refine⟨t1,?_⟩;rw[Bb (sk':=sk') h1,Bb (sk':=sk') (by omega:k+1<=j+1),exth (hk':=hk') h1,exth (hk':=hk') (by omega:k+1<=j+1)];exact t2
     ·have hjk:j=k:=(by omega);subst hjk;rw[hok]at hq;simp at hq;subst hq;refine⟨hdst,false,by rw[DC];exact hb,λ_=>?_,λhc=>by cases hc⟩;rw[Bb (sk':=sk') (AD _),exth (hk':=hk') (AD _)];simp[e1,e2,DC]
    ·have hi':=gtn i q hi hn;have hj':=gt j hj hw;have:=tr.apart i j q hi' hj' (ndE i q hi' hn) (wdE j hj' hw);rw[Bb (sk':=sk') hi',exth (hk':=hk') (by omega:k+1<=j+1),exth (hk':=hk') hj'];exact this
    ·have hj':=gt j hj hw;have:=hp x hx j hj' (wdE j hj' hw);rw[exth (hk':=hk') (by omega:k+1<=j+1)];exact this
    ·have hi':=gtn i q hi hn;have:=hh x hx i q hi' (ndE i q hi' hn);rw[Bb (sk':=sk') hi'];exact this
   |true=>
    simp only[AH]at hd;split at hd
    ·rename_i hw;obtain⟨v,h',hdo,hpast,hd⟩:=hd;obtain⟨sk',hk',vk',e1,e2,e3,tr,hp,hh⟩:=P4 rest (k+1) past ((k,h)::hist) _ _ hrest hd;have hnN: ∀ q,¬ Nd ow wf ops (By k s sk') k q:=by
      rintro q ⟨hq,hq2,_⟩;rw[hok]at hq;simp at hq;subst hq;rw[hw]at hq2;simp at hq2
     have wdE: ∀ j,k+1<=j->Wd ow wf ops (By k s sk') j->Wd ow wf ops sk' j:=by
      intro j hj hw;unfold Wd at hw⊢;rw[Bb hj]at hw;exact hw
     have ndE: ∀ j q,k+1<=j->Nd ow wf ops (By k s sk') j q->Nd ow wf ops sk' j q:=by
      intro j q hj hw;unfold Nd at hw⊢;rw[Bb hj]at hw;exact hw
     have gtn: ∀ j q,k<=j->Nd ow wf ops (By k s sk') j q->k+1<=j:=by
      intro j q hj hw;rcases CT k j with h1|h1
      ·exact h1
      ·have:j=k:=(by omega);subst this;exact(hnN q hw).elim
     have vkE: ∀ {j},k+1<=j->(By k v vk') j=vk' j:=λhj=>FV (by omega);refine⟨By k s sk',By k h hk',By k v vk',DC,DC,?_,⟨λj q hj hq=>?_,λi j q hi hj hn hwd=>?_⟩,λx hx j hj hwd=>?_,λx hx i q hi hn=>?_⟩
     ·rw [FV (by simp),FV (by simp)];rw[show k+(o::rest).length=k+1+rest.length by simp;omega];exact e3
     ·rcases CT k j with h1|h1
      ·obtain ⟨t1,t2⟩:=tr.step j q h1 hq;refine⟨t1,?_⟩;rw[Bb (sk':=sk') h1,Bb (sk':=sk') (by omega:k+1<=j+1),exth (hk':=hk') h1,exth (hk':=hk') (by omega:k+1<=j+1),vkE h1];exact t2
      ·have hjk:j=k:=(by omega);subst hjk;rw[hok]at hq;simp at hq;subst hq;refine⟨hdst,true,by rw[DC];exact hb,(λhc=>by cases hc),λ_=>?_⟩;rw[Bb (sk':=sk') (AD _),exth (hk':=hk') (AD _)];simp only[DC,e1,e2];exact⟨trivial,hdo,λhc=>by rw[hw]at hc;simp at hc⟩
     ·have hi':=gtn i q hi hn;rw[Bb (sk':=sk') hi',exth (hk':=hk') (by omega:k+1<=j+1),vkE hi'];rcases CT k j with h1|h1
      ·have:=tr.apart i j q hi' h1 (ndE i q hi' hn) (wdE j h1 hwd);rw[exth (hk':=hk') h1];exact this
      ·have hjk:j=k:=(by omega);subst hjk;refine⟨λhlt=>by omega,λ_=>?_⟩;rw[DC];exact hh (j,h) (by simp) i q hi' (ndE i q hi' hn)
     ·rcases CT k j with h1|h1
      ·rw [exth (hk':=hk') (by omega:k+1<=j+1)];exact hp x hx j h1 (wdE j h1 hwd)
      ·have hjk:j=k:=(by omega);subst hjk;rw[exth (hk':=hk') (AD _),e2];exact hpast x hx
     ·have hi':=gtn i q hi hn;rw[Bb (sk':=sk') hi',vkE hi'];exact hh x (by simp[hx]) i q hi' (ndE i q hi' hn)
    ·rename_i hw;obtain⟨v,hdo,hhist,hd⟩:=hd;have hw':B0 ow wf o=false:=(by simpa using hw);obtain⟨sk',hk',vk',e1,e2,e3,tr,hp,hh⟩:=P4 rest (k+1) ((k,λh'=>Af P ow o (A5 s) h' v h')::past) hist _ _ hrest hd;have hnW:¬ Wd ow wf ops (By k s sk') k:=by
      rintro⟨q,hq,hq2,_⟩;rw[hok]at hq;simp at hq;subst hq;exact hw hq2
     have wdE: ∀ j,k+1<=j->Wd ow wf ops (By k s sk') j->Wd ow wf ops sk' j:=by
      intro j hj hw;unfold Wd at hw⊢;rw[Bb hj]at hw;exact hw
     have ndE: ∀ j q,k+1<=j->Nd ow wf ops (By k s sk') j q->Nd ow wf ops sk' j q:=by
      intro j q hj hw;unfold Nd at hw⊢;rw[Bb hj]at hw;exact hw
     have gt: ∀ j,k<=j->Wd ow wf ops (By k s sk') j->k+1<=j:=by
      intro j hj hw;rcases CT k j with h1|h1
      ·exact h1
      ·have:j=k:=(by omega);subst this;exact(hnW hw).elim
     have vkE: ∀ {j},k+1<=j->(By k v vk') j=vk' j:=λhj=>FV (by omega);refine⟨By k s sk',By k h hk',By k v vk',DC,DC,?_,⟨λj q hj hq=>?_,λi j q hi hj hn hwd=>?_⟩,λx hx j hj hwd=>?_,λx hx i q hi hn=>?_⟩
     ·rw [FV (by simp),FV (by simp)];rw[show k+(o::rest).length=k+1+rest.length by simp;omega];exact e3
     ·rcases CT k j with h1|h1
      ·obtain ⟨t1,t2⟩:=tr.step j q h1 hq;refine⟨t1,?_⟩;rw[Bb (sk':=sk') h1,Bb (sk':=sk') (by omega:k+1<=j+1),exth (hk':=hk') h1,exth (hk':=hk') (by omega:k+1<=j+1),vkE h1];exact t2
      ·have hjk:j=k:=(by omega);subst hjk;rw[hok]at hq;simp at hq;subst hq;refine⟨hdst,true,by rw[DC];exact hb,(λhc=>by cases hc),λ_=>?_⟩;rw[Bb (sk':=sk') (AD _),exth (hk':=hk') (AD _)];simp only[DC,e1,e2];exact⟨trivial,hdo,λ_=>trivial⟩
     ·have hj':=gt j hj hwd;rw[exth (hk':=hk') (by omega:k+1<=j+1),exth (hk':=hk') hj'];rcases CT k i with h1|h1
      ·rw [Bb (sk':=sk') h1,vkE h1];exact tr.apart i j q h1 hj' (ndE i q h1 hn) (wdE j hj' hwd)
      ·have hik:i=k:=(by omega);subst hik;have hq:=hn.1;rw[hok]at hq;simp at hq;subst hq;refine⟨λ_=>?_,λhlt=>by omega⟩;simp only[DC];exact hp _ (KF ..) j hj' (wdE j hj' hwd)
     ·have hj':=gt j hj hwd;rw[exth (hk':=hk') (by omega:k+1<=j+1)];exact hp x (by simp[hx]) j hj' (wdE j hj' hwd)
     ·rcases CT k i with h1|h1
      ·rw [Bb (sk':=sk') h1,vkE h1];exact hh x hx i q h1 (ndE i q h1 hn)
      ·have hik:i=k:=(by omega);subst hik;have hq:=hn.1;rw[hok]at hq;simp at hq;subst hq;simp only[DC];exact hhist x hx
end
end Go.AM
namespace Go.AM
section
variable {P:Program}{ow:Nat->Bool}{wf:FuncId->Bool}{n:Nat}{ops:List Oper}
def Dg(p:Nat->Bool):Nat->Nat
 |0=>0
 |n+1=>if p n then n+1 else Dg p n
theorem FW(p:Nat->Bool): ∀ n,Dg p n<=n/\(Dg p n=0\/ ∃ m,Dg p n=m+1/\p m=true)/\ ∀ j,Dg p n<=j->j<n->p j=false
 |0=>by simp[Dg]
 |n+1=>by
  obtain⟨h1,h2,h3⟩:=FW p n;unfold Dg;by_cases hp:p n=true
  ·rw [AG hp];exact⟨AD _,.inr ⟨n,rfl,hp⟩,λj h4 h5=>by omega⟩
  ·rw [A4 hp];refine⟨by omega,h2,λj h4 h5=>?_⟩;rcases CT j n with h6|h6
   ·exact h3 j h4 h6
   ·have:j=n:=(by omega);subst this;simpa using hp
theorem Jm{p:Nat->Bool}{n m:Nat}(h1:m<=n)(h2:m=0\/ ∃ k,m=k+1/\p k=true)(h3: ∀ j,m<=j->j<n->p j=false):Dg p n=m:=by
 obtain⟨g1,g2,g3⟩:=FW p n;rcases T8 (Dg p n) m with h|h|h
 ·rcases h2 with rfl|⟨k,rfl,hk⟩
  ·omega
  ·have:=g3 k (by omega) (by omega);rw[hk]at this;simp at this
 ·exact h
 ·rcases g2 with h4|⟨k,h4,hk⟩
  ·omega
  ·have:=h3 k (by omega) (by omega);rw[hk]at this;simp at this
theorem LP{p q:Nat->Bool}: ∀ n,(∀ j,j<n->p j=q j)->Dg p n=Dg q n
 |0,_=>rfl
 |n+1,h=>by
  unfold Dg;rw[h n (by omega),LP n (λj hj=>h j (by omega))]
def FC(S:Nat->Bool):Nat->Nat
 |0=>0
 |n+1=>FC S n+if S n then 0 else 1
theorem U0{S S':Nat->Bool}: ∀ n,(∀ j,j<n->S j=S' j)->FC S n=FC S' n
 |0,_=>rfl
 |n+1,h=>by unfold FC;rw[h n (by omega),U0 n (λj hj=>h j (by omega))]
theorem P5{S S':Nat->Bool}{i:Nat}(hi:S i=false)(hi':S' i=true)(ho: ∀ j,j≠i->S j=S' j): ∀ n,i<n->FC S n=FC S' n+1
 |0,h=>by omega
 |n+1,h=>by
  unfold FC;by_cases he:i=n
  ·subst he;rw[U0 i (λj hj=>ho j (by omega)),hi,hi'];simp
  ·rw [P5 hi hi' ho n (by omega),ho n (λe=>he e.symm)];omega
theorem P6{S:Nat->Bool}: ∀ n,FC S n=0-> ∀ j,j<n->S j=true
 |0,_,j,hj=>by omega
 |n+1,h,j,hj=>by
  unfold FC at h;by_cases he:j=n
  ·subst he;cases hs:S j with
   |true=>rfl
   |false=>rw[hs]at h;simp at h
  ·exact P6 n (by omega) j (by omega)
def Cq(ops:List Oper)(t j:Nat):Bool:=decide ((ops[j]?).bind (·.dst)=some t)
def C5(ow:Nat->Bool)(wf:FuncId->Bool)(ops:List Oper)(sk:Nat->A9)(j:Nat):Bool:=match ops[j]? with
 |some o=>B0 ow wf o&&decide (CN ops (sk j) o=some true)
 |none=>false
theorem Eb{sk:Nat->A9}{j:Nat}:C5 ow wf ops sk j=true↔Wd ow wf ops sk j:=by
 unfold C5 Wd;cases ops[j]? with
 |none=>simp
 |some o=>simp
def C6(ops:List Oper)(sk:Nat->A9)(S:Nat->Bool):A9:=λt=>sk (Dg (λj=>S j&&Cq ops t j) ops.length) t
def GC(ow:Nat->Bool)(wf:FuncId->Bool)(ops:List Oper)(sk:Nat->A9)(hk:Nat->A0)(S:Nat->Bool):A0:=hk (Dg (λj=>S j&&C5 ow wf ops sk j) ops.length)
variable {sk:Nat->A9}{hk:Nat->A0}{vk:Nat->PV}
theorem Tr.slot_const(tr:Tr P ow wf n ops 0 sk hk vk){t:Nat}{i:Nat}: ∀ d,i+d<=ops.length->(∀ j,i<=j->j<i+d->Cq ops t j=false)->sk (i+d) t=sk i t
 |0,_,_=>rfl
 |d+1,hd,hw=>by
  have ih:=Tr.slot_const tr (t:=t) (i:=i) d (by omega) (λj h1 h2=>hw j h1 (by omega));rw[← ih];have hlt:i+d<ops.length:=by omega
  obtain⟨_,b,h1,h2,h3⟩:=tr.step (i+d) ops[i+d] (Bx _) (AU hlt);have hnw:=hw (i+d) (by omega) (by omega);simp only[Cq,AU hlt,D2,Cv]at hnw;have hupd: ∀ v,AZ (sk (i+d)) ops[i+d].dst v t=sk (i+d) t:=by
   intro v;cases hdst:ops[i+d].dst with
   |none=>rfl
   |some dd=>
    simp only[AZ,CX];rw[A4];intro e;subst e;exact hnw hdst
  rw[show i+(d+1)=i+d+1 by omega];cases b with
  |false=>rw[(h2 rfl).1];exact hupd _
  |true=>rw[(h3 rfl).1];exact hupd _
theorem Tr.heap_const(tr:Tr P ow wf n ops 0 sk hk vk){i:Nat}: ∀ d,i+d<=ops.length->(∀ j,i<=j->j<i+d->C5 ow wf ops sk j=false)->hk (i+d)=hk i
 |0,_,_=>rfl
 |d+1,hd,hw=>by
  have ih:=Tr.heap_const tr (i:=i) d (by omega) (λj h1 h2=>hw j h1 (by omega));rw[← ih];have hlt:i+d<ops.length:=by omega
  obtain⟨_,b,h1,h2,h3⟩:=tr.step (i+d) ops[i+d] (Bx _) (AU hlt);have hnw:=hw (i+d) (by omega) (by omega);rw[show i+(d+1)=i+d+1 by omega];cases b with
  |false=>exact(h2 rfl).2
  |true=>
   refine(h3 rfl).2.2 ?_;cases hiw:B0 ow wf ops[i+d]with
   |false=>rfl
   |true=>
    have:C5 ow wf ops sk (i+d)=true:=Eb.2 ⟨_,AU hlt,hiw,h1⟩;rw[hnw]at this;simp at this
structure Bz(ops:List Oper)(S:Nat->Bool)(i:Nat)(o:Oper):Prop where
 at_:ops[i]? =some o
 new:S i=false
 closed:I7 ops S
 before: ∀ e∈o.after.toList,Region.binds .any e=true->S e.on=true
theorem Bz.bef{S:Nat->Bool}{i:Nat}{o:Oper}(r:Bz ops S i o){j:Nat}(hp:Go.AM.pre ops j i=true):S j=true:=by
 obtain⟨e,h1,h2,h3⟩:=MY r.at_ hp;have he:=r.before e h1 h2;rcases h3 with rfl|⟨h4,h5⟩
 ·exact he
 ·exact r.closed.pre e.on j (by have:=(BC.1 r.at_).1;omega) he h5
theorem Bz.not_pre{S:Nat->Bool}{i:Nat}{o:Oper}(r:Bz ops S i o){j:Nat}(hj:j<ops.length)(hs:S j=true):Go.AM.pre ops i j=false:=by
 cases hp:Go.AM.pre ops i j with
 |false=>rfl
 |true=>have:=r.closed.pre j i hj hs hp;rw[r.new]at this;simp at this
theorem Bz.slot(hd:Jl ow wf ops)(tr:Tr P ow wf n ops 0 sk hk vk){S:Nat->Bool}{i:Nat}{o:Oper}(r:Bz ops S i o){t:Nat}(ht:t∈Ea ops o):C6 ops sk S t=sk i t:=by
 have hi:i<ops.length:=(BC.1 r.at_).1;obtain⟨h1,h2,h3⟩:=FW (λj=>S j&&Cq ops t j) ops.length;unfold C6;generalize Dg (λj=>S j&&Cq ops t j) ops.length=m at*
 -- a writer of t that is not this operation comes before or behind it
 have ord: ∀ j,j<ops.length->j≠i->Cq ops t j=true->Go.AM.pre ops j i=true\/Go.AM.pre ops i j=true:=by
  intro j hj hne hw;simp only[Cq,AU hj,D2,BP]at hw;exact hd.slot j i _ o hne (AU hj) r.at_ t hw ht
 rcases CT i m with h4|h4
 ·-- a writer behind i has been done: none can be
  rcases h2 with h2|⟨k,h2,h5⟩
  ·omega
  ·simp only[AR]at h5;by_cases hki:k=i
   ·subst hki;rw[r.new]at h5;simp at h5
   ·rcases ord k (by omega) hki h5.2 with h6|h6
    ·have:=MZ hd i k hi h6;omega
    ·rw [r.not_pre (by omega) h5.1]at h6;simp at h6
 ·have:=tr.slot_const (t:=t) (i:=m) (i-m) (by omega) (λj h5 h6=>?_)
  ·rw [show m+(i-m)=i by omega]at this;exact this.symm
  ·cases hw:Cq ops t j with
   |false=>rfl
   |true=>
    have hns:=h3 j h5 (by omega);rw[hw,Cc]at hns;rcases ord j (by omega) (by omega) hw with h7|h7
    ·rw [r.bef h7]at hns;simp at hns
    ·have:=MZ hd j i (by omega) h7;omega
theorem Bz.does(hd:Jl ow wf ops)(tr:Tr P ow wf n ops 0 sk hk vk){S:Nat->Bool}{i:Nat}{o:Oper}(r:Bz ops S i o)(hw:CN ops (sk i) o=some true):
  (B0 ow wf o=true->GC ow wf ops sk hk S=hk i/\Af P ow o (A5 (sk i)) (hk i) (vk i) (hk (i+1)))/\
  (B0 ow wf o=false->Af P ow o (A5 (sk i)) (GC ow wf ops sk hk S) (vk i) (GC ow wf ops sk hk S)):=by
 have hi:i<ops.length:=(BC.1 r.at_).1;obtain⟨h1,h2,h3⟩:=FW (λj=>S j&&C5 ow wf ops sk j) ops.length;obtain⟨_,b,hb,_,hb2⟩:=tr.step i o (Bx _) r.at_;rw[hw]at hb;simp at hb;subst hb;obtain⟨_,hdo,hsame⟩:=hb2 rfl;unfold GC;generalize Dg (λj=>S j&&C5 ow wf ops sk j) ops.length=m at*;refine⟨λhiw=>⟨?_,hdo⟩,λhiw=>?_⟩
 ·have ord: ∀ j,j<ops.length->j≠i->C5 ow wf ops sk j=true->Go.AM.pre ops j i=true\/Go.AM.pre ops i j=true:=by
   intro j hj hne hwd;obtain⟨q,hq,hqw,_⟩:=Eb.1 hwd;exact hd.ww j i q o hne hq r.at_ hqw hiw
  rcases CT i m with h4|h4
  ·rcases h2 with h2|⟨k,h2,h5⟩
   ·omega
   ·simp only[AR]at h5;by_cases hki:k=i
    ·subst hki;rw[r.new]at h5;simp at h5
    ·rcases ord k (by omega) hki h5.2 with h6|h6
     ·have:=MZ hd i k hi h6;omega
     ·rw [r.not_pre (by omega) h5.1]at h6;simp at h6
  ·have:=tr.heap_const (i:=m) (i-m) (by omega) (λj h5 h6=>?_)
   ·rw [show m+(i-m)=i by omega]at this;exact this.symm
   ·cases hwd:C5 ow wf ops sk j with
    |false=>rfl
    |true=>
     have hns:=h3 j h5 (by omega);rw[hwd,Cc]at hns;rcases ord j (by omega) (by omega) hwd with h7|h7
     ·rw [r.bef h7]at hns;simp at hns
     ·have:=MZ hd j i (by omega) h7;omega
 ·rw [hsame hiw]at hdo;have hn:Nd ow wf ops sk i o:=⟨r.at_,hiw,hw⟩;rcases CT i m with h4|h4
  ·rcases h2 with h2|⟨k,h2,h5⟩
   ·omega
   ·simp only[AR]at h5;have hki:k≠i:=(by intro e;subst e;rw[r.new]at h5;simp at h5);have:=(tr.apart i k o (Bx _) (Bx _) hn (Eb.1 h5.2)).1 (by omega);rw[h2];rcases this with h6|h6
    ·rw [r.not_pre (by omega) h5.1]at h6;simp at h6
    ·exact h6
  ·-- the first change between m and i that has not been done
   have hex:(∀ j,m<=j->j<i->C5 ow wf ops sk j=false)\/ ∃ j,m<=j/\j<i/\C5 ow wf ops sk j=true/\ ∀ l,m<=l->l<j->C5 ow wf ops sk l=false:=by
    have: ∀ d,(∀ j,m<=j->j<m+d->C5 ow wf ops sk j=false)\/ ∃ j,m<=j/\j<m+d/\C5 ow wf ops sk j=true/\ ∀ l,m<=l->l<j->C5 ow wf ops sk l=false:=by
     intro d
     induction d with
     |zero=>left;intro j a b;omega
     |succ d ih=>
      rcases ih with ih|⟨j,g1,g2,g3,g4⟩
      ·cases hx:C5 ow wf ops sk (m+d)with
       |false=>
        left;intro j a b;rcases CT j (m+d)with c|c
        ·exact ih j a c
        ·have:j=m+d:=(by omega);subst this;exact hx
       |true=>exact .inr ⟨m+d,by omega,by omega,hx,λl a b=>ih l a b⟩
      ·exact .inr ⟨j,g1,by omega,g3,g4⟩
    have:=this (i-m)
    rwa [show m+(i-m)=i by omega]at this
   rcases hex with hno|⟨j,g1,g2,g3,g4⟩
   ·have:=tr.heap_const (i:=m) (i-m) (by omega) (λj a b=>hno j a (by omega));rw[show m+(i-m)=i by omega]at this;rw[← this];exact hdo
   ·have:=tr.heap_const (i:=m) (j-m) (by omega) (λl a b=>g4 l a (by omega));rw[show m+(j-m)=j by omega]at this;rw[← this];have hns:=h3 j g1 (by omega);rw[g3,Cc]at hns;rcases(tr.apart i j o (Bx _) (Bx _) hn (Eb.1 g3)).2 g2 with h6|h6
    ·rw [r.bef h6]at hns;simp at hns
    ·exact h6
theorem Bz.next(hd:Jl ow wf ops)(tr:Tr P ow wf n ops 0 sk hk vk){S S':Nat->Bool}{i:Nat}{o:Oper}(r:Bz ops S i o)(hs':S' i=true)(ho: ∀ j,j≠i->S' j=S j){x:PV}(hx:sk (i+1)=AZ (sk i) o.dst x):
  AZ (C6 ops sk S) o.dst x=C6 ops sk S':=by
 have hi:i<ops.length:=(BC.1 r.at_).1;funext t;have hwr:Cq ops t i=decide (o.dst=some t):=by simp[Cq,r.at_]
 by_cases ht:o.dst=some t
 ·have hl:t∈Ea ops o:=by simp[Ea,ht]
  have h1:AZ (C6 ops sk S) o.dst x t=x:=by rw[ht];simp[AZ,CX]
  have h2:sk (i+1) t=x:=by rw[hx,ht];simp[AZ,CX]
  rw[h1, ← h2];unfold C6;rw[Jm (m:=i+1) (by omega) (.inr ⟨i,rfl,by rw[hs',hwr];simp[ht]⟩)];intro j h3 h4;cases hw:Cq ops t j with
  |false=>simp
  |true=>
   cases hsj:S' j with
   |false=>simp
   |true=>
    rw[ho j (by omega)]at hsj;simp only[Cq,AU h4,D2,BP]at hw;rcases hd.slot j i _ o (by omega) (AU h4) r.at_ t hw hl with h7|h7
    ·have:=MZ hd i j hi h7;omega
    ·rw [r.not_pre h4 hsj]at h7;simp at h7
 ·have h1:AZ (C6 ops sk S) o.dst x t=C6 ops sk S t:=by
   cases hdst:o.dst with
   |none=>rfl
   |some d=>
    simp only[AZ,CX];rw[A4];intro e;subst e;exact ht hdst
  rw[h1];unfold C6;rw[LP ops.length (λj hj=>?_)];by_cases hji:j=i
  ·subst hji;rw[hwr];simp[ht]
  ·rw [ho j hji]
theorem Bz.nextH(hd:Jl ow wf ops){S S':Nat->Bool}{i:Nat}{o:Oper}(r:Bz ops S i o)(hs':S' i=true)(ho: ∀ j,j≠i->S' j=S j):
  (C5 ow wf ops sk i=true->GC ow wf ops sk hk S'=hk (i+1))/\(C5 ow wf ops sk i=false->GC ow wf ops sk hk S'=GC ow wf ops sk hk S):=by
 have hi:i<ops.length:=(BC.1 r.at_).1;refine⟨λhw=>?_,λhw=>?_⟩
 ·unfold GC;rw[Jm (m:=i+1) (by omega) (.inr ⟨i,rfl,by rw[hs',hw];try rfl⟩)];intro j h3 h4;cases hwj:C5 ow wf ops sk j with
  |false=>simp
  |true=>
   cases hsj:S' j with
   |false=>simp
   |true=>
    rw[ho j (by omega)]at hsj;obtain⟨q,hq,hqw,_⟩:=Eb.1 hwj;obtain⟨q',hq',hqw',_⟩:=Eb.1 hw;rw[r.at_]at hq';simp at hq';subst hq';rcases hd.ww j i q o (by omega) hq r.at_ hqw hqw' with h7|h7
    ·have:=MZ hd i j hi h7;omega
    ·rw [r.not_pre h4 hsj]at h7;simp at h7
 ·unfold GC;rw[LP ops.length (λj hj=>?_)];by_cases hji:j=i
  ·subst hji;rw[hw];simp
  ·rw [ho j hji]
theorem Af.wp{β:BH}{s:A9}{h h':A0}{a:Act}{w:World}{o:Oper}{v:PV}(st:St n β s h a w)(hd:o.dst.all (λd=>decide (d<n))=true)(hdo:Af P ow o (A5 s) h v h'){K:Act->World->Prop}{Q:Exit->Act->World->Prop}
  (hk: ∀ a' w',To n β h w (λs' h2=>s'=AZ s o.dst v/\h2=h') a' w'->K a' w'):o.wp P a w K Q:=by
 refine Tw (P:=P) (ow:=ow) (K':=λs' h2=>s'=AZ s o.dst v/\h2=h') st hd ?_ hk;unfold Af at hdo;unfold CQ;split at hdo
 ·rename_i f args hc;refine λβ w vals sm hr=>(hdo β w vals sm hr).mono ?_;rintro e w' ⟨r,h3,β',u,he,⟨rfl,rfl⟩,rest⟩;exact⟨r,h3,β',u,he,⟨rfl,rfl⟩,rest⟩
 ·rw [hdo];exact⟨rfl,rfl⟩
theorem Qt{s s':A9}{o:Oper}(h: ∀ t,t∈Ea ops o->s t=s' t):CN ops s o=CN ops s' o:=by
 unfold CN;cases hg:o.guard with
 |none=>rfl
 |some gw=>
  obtain⟨g,want⟩:=gw;cases ht:(ops[g]?).bind (·.dst)with
  |none=>simp[ht]
  |some t=>
   simp only[ht];rw[h t (by simp[Ea,hg,ht])]
theorem ZA(hd:Jl ow wf ops)(tr:Tr P ow wf n ops 0 sk hk vk){K:A9->A0->Prop}(hK:K (sk ops.length) (hk ops.length)){Q:Exit->Act->World->Prop}:
  ∀ (fuel:Nat)(listed:Array Bool)(β:BH)(a:Act)(w:World),listed.size=ops.length->I7 ops (λj=>listed.getD j false)->FC (λj=>listed.getD j false) ops.length<=fuel->
   St n β (C6 ops sk λj=>listed.getD j false) (GC ow wf ops sk hk λj=>listed.getD j false) a w->
   (∀ a' w',To n β (GC ow wf ops sk hk λj=>listed.getD j false) w K a' w'->Q .normal a' w')->wpAny P .any ops.toArray Q fuel listed a w:=by
 have Ck: ∀ (listed:Array Bool)(β:BH)(a:Act)(w:World),(∀ j,j<ops.length->listed.getD j false=true)->
   St n β (C6 ops sk λj=>listed.getD j false) (GC ow wf ops sk hk λj=>listed.getD j false) a w->
   (∀ a' w',To n β (GC ow wf ops sk hk λj=>listed.getD j false) w K a' w'->Q .normal a' w')->Q .normal a w:=by
  intro listed β a w hall st hk';have e1:C6 ops sk (λj=>listed.getD j false)=sk ops.length:=by
   funext t;obtain⟨h1,h2,h3⟩:=FW (λj=>listed.getD j false&&Cq ops t j) ops.length;unfold C6;generalize Dg (λj=>listed.getD j false&&Cq ops t j) ops.length=m at*;have:=tr.slot_const (t:=t) (i:=m) (ops.length-m) (by omega) (λj h5 h6=>by
    have:=h3 j h5 (by omega);rw[hall j (by omega),B8]at this;exact this)
   rw[show m+(ops.length-m)=ops.length by omega]at this;exact this.symm
  have e2:GC ow wf ops sk hk (λj=>listed.getD j false)=hk ops.length:=by
   obtain⟨h1,h2,h3⟩:=FW (λj=>listed.getD j false&&C5 ow wf ops sk j) ops.length;unfold GC;generalize Dg (λj=>listed.getD j false&&C5 ow wf ops sk j) ops.length=m at*;have:=tr.heap_const (i:=m) (ops.length-m) (by omega) (λj h5 h6=>by
    have:=h3 j h5 (by omega);rw[hall j (by omega),B8]at this;exact this)
   rw[show m+(ops.length-m)=ops.length by omega]at this;exact this.symm
  exact hk' a w ⟨_,_,β,by rw[← e1, ← e2]at hK;exact hK,st,BM.refl⟩
 have rdy: ∀ (listed:Array Bool)(i:Nat),listed.size=ops.length->I7 ops (λj=>listed.getD j false)->i∈Region.ready .any ops.toArray listed-> ∃ o,Bz ops (λj=>listed.getD j false) i o:=by
  intro listed i hsz hc hi;simp only[Region.ready,LB,EY,IW,AR,E5,IX]at hi;obtain⟨h1,h2,h3⟩:=hi;rw[AU h1]at h3;simp only[Ba,B6,Og,DG,E5]at h3;refine⟨_,AU h1,?_,hc,λe he hb=>?_⟩
  ·rw [DJ,ND (by omega)]at h2⊢;simpa using h2
  ·rcases h3 e (Hy.1 he)with h4|h4
   ·rw [hb]at h4;simp at h4
   ·exact h4
 have noRdy: ∀ (listed:Array Bool),listed.size=ops.length->Region.ready .any ops.toArray listed=[]-> ∀ j,j<ops.length->listed.getD j false=true:=by
  intro listed hsz hr j
  induction j using Nat.strongRecOn with
  |_ j ih=>
   intro hj;cases hs:listed.getD j false with
   |true=>rfl
   |false=>
    have hm:j∈Region.ready .any ops.toArray listed:=by
     simp only[Region.ready,LB,EY,IW,AR,E5,IX];refine⟨hj,?_,?_⟩
     ·rw [DJ,ND (by omega)]at hs⊢;simpa using hs
     ·rw [AU hj];simp only[Ba,B6,Og,DG,E5];intro e he;cases hb:Region.binds .any e with
      |false=>exact .inl rfl
      |true=>
       have hlt:=hd.back j _ (AU hj) e (Hy.2 he) hb;exact .inr (ih e.on hlt (by omega))
    rw[hr]at hm;simp at hm
 intro fuel
 induction fuel with
 |zero=>
  intro listed β a w hsz hc hm st hk';have hall:=P6 (S:=λj=>listed.getD j false) ops.length (by omega);refine⟨?_,Ck listed β a w hall st hk'⟩;apply QX.2;intro i hi;obtain⟨o,r⟩:=rdy listed i hsz hc hi;have:=hall i (BC.1 r.at_).1;have hn:=r.new;rw[this]at hn;simp at hn
 |succ fuel ih=>
  intro listed β a w hsz hc hm st hk';refine⟨λhr=>Ck listed β a w (noRdy listed hsz hr) st hk',λi hi=>?_⟩;obtain⟨o,r⟩:=rdy listed i hsz hc hi;have hil:i<ops.length:=(BC.1 r.at_).1;have hs':(listed.setIfInBounds i true).getD i false=true:=by
   rw[DJ,YE (by omega)];try rfl
  have ho: ∀ j,j≠i->(listed.setIfInBounds i true).getD j false=listed.getD j false:=by
   intro j hj;rw[DJ,MG (Ne.symm hj), ← DJ]
  have hc':I7 ops (λj=>(listed.setIfInBounds i true).getD j false):=by
   intro j q hq hj e he hb;by_cases heq:e.on=i
   ·simp only[heq];exact hs'
   ·simp only;rw[ho _ heq];by_cases hji:j=i
    ·subst hji;have:=r.at_;rw[hq]at this;simp at this;subst this;exact r.before e he hb
    ·simp only at hj;rw[ho j hji]at hj;exact hc j q hq hj e he hb
  have hm':FC (λj=>(listed.setIfInBounds i true).getD j false) ops.length<=fuel:=by
   have:=P5 (S:=λj=>listed.getD j false) (S':=λj=>(listed.setIfInBounds i true).getD j false) r.new hs' (λj hj=>(ho j hj).symm) ops.length hil;omega
  obtain⟨hdst,b,hb,hb1,hb2⟩:=tr.step i o (Bx _) r.at_;have hlook: ∀ t,t∈Ea ops o->C6 ops sk (λj=>listed.getD j false) t=sk i t:=λt ht=>r.slot hd tr ht;have hwant:=P0 st (o:=o) (ops:=ops) (by rw[Qt hlook];exact hb);have hnext:=λ{x:PV}(hx:sk (i+1)=AZ (sk i) o.dst x)=>r.next (S':=λj=>(listed.setIfInBounds i true).getD j false) hd tr hs' ho hx
  have hnextH:=r.nextH (S':=λj=>(listed.setIfInBounds i true).getD j false) (sk:=sk) (hk:=hk) (ow:=ow) (wf:=wf) hd hs' ho;unfold wpOp;simp only[IX,r.at_];rw[hwant];cases b with
  |false=>
   obtain⟨e1,e2⟩:=hb1 rfl;simp only[BG,AP];have st':=st.undef (d:=o.dst) hdst;rw[hnext e1]at st';have hwdf:C5 ow wf ops sk i=false:=by
    cases hx:C5 ow wf ops sk i with
    |false=>rfl
    |true=>
     obtain⟨q,hq,_,hqw⟩:=Eb.1 hx;rw[r.at_]at hq;simp at hq;subst hq;rw[hb]at hqw;simp at hqw
   have eh:=hnextH.2 hwdf;refine ih _ β _ w (by simpa using hsz) hc' hm' (by rw[eh];exact st') (λa' w' ht=>hk' a' w' ?_);rw[eh]at ht;exact ht
  |true=>
   obtain⟨e1,e2,e3⟩:=hb2 rfl;simp only[AH];left;have hdoes:=r.does hd tr hb;have hops: ∀ t,.tmp t∈o.op.operands->sk i t=C6 ops sk (λj=>listed.getD j false) t:=λt ht=>(hlook t (by
    simp only[Ea,DY,KG];exact .inl (.inl ⟨.tmp t,Hy.2 ht,rfl⟩))).symm
   cases hiw:B0 ow wf o with
   |true=>
    obtain⟨g1,g2⟩:=hdoes.1 hiw;have hwd:C5 ow wf ops sk i=true:=Eb.2 ⟨o,r.at_,hiw,hb⟩;have eh:=hnextH.1 hwd;refine Af.wp st hdst (by rw[g1];exact LO hops g2) (λa' w' ht=>?_);obtain⟨s',h',β',⟨rfl,rfl⟩,st',ex⟩:=ht;rw[hnext e1]at st';refine ih _ β' a' w' (by simpa using hsz) hc' hm' (by rw[eh];exact st') (λa'' w'' ht'=>hk' a'' w'' ?_);rw[eh]at ht';exact ht'.mono ex (λ_ _ x=>x)
   |false=>
    have g2:=hdoes.2 hiw;have hwd:C5 ow wf ops sk i=false:=by
     cases hx:C5 ow wf ops sk i with
     |false=>rfl
     |true=>
      obtain⟨q,hq,hqw,_⟩:=Eb.1 hx;rw[r.at_]at hq;simp at hq;subst hq;rw[hiw]at hqw;simp at hqw
    have eh:=hnextH.2 hwd;refine Af.wp st hdst (LO hops g2) (λa' w' ht=>?_);obtain⟨s',h',β',⟨rfl,rfl⟩,st',ex⟩:=ht;rw[hnext e1]at st';refine ih _ β' a' w' (by simpa using hsz) hc' hm' (by rw[eh];exact st') (λa'' w'' ht'=>hk' a'' w'' ?_);rw[eh]at ht';exact ht'.mono ex (λ_ _ x=>x)
theorem ZB{id:Nat}(hm:P.follows .mixedOrders=true){β:BH}{s:A9}{h:A0}{a:Act}{w:World}{K:A9->A0->Prop}{Q:Exit->Act->World->Prop}(st:St n β s h a w)(hw:TL P ow wf n ops K s h)
  (hk': ∀ a' w',To n β h w K a' w'->Q .normal a' w'):(Code.region id ops.toArray true).wp P Q a w:=by
 obtain⟨h1,h2⟩:=hw;have hd:=Jl.of h1;obtain⟨sk,hk,vk,e1,e2,hK,tr,_,_⟩:=P4 ops 0 [] [] s h (by simp) h2;rw[Be]at hK;refine wp_region_any hm ?_;obtain⟨s1,s2⟩:=st.sim.drew;have emp: ∀ (p:Nat->Bool),(λj=>((Array.replicate ops.toArray.size false).getD j false&&p j))=λ_=>false:=by
  intro p;funext j;rw[DJ,QY];split<;>rfl
 have l0:Dg (λ_=>false) ops.length=0:=Jm (Bx _) (.inl rfl) (λ_ _ _=>rfl);have hval:C6 ops sk (λj=>(Array.replicate ops.toArray.size false).getD j false)=s:=by
  funext t;unfold C6;rw[emp,l0,e1]
 have hheap:GC ow wf ops sk hk (λj=>(Array.replicate ops.toArray.size false).getD j false)=h:=by
  unfold GC;rw[emp,l0,e2]
 have hnone: ∀ j,(Array.replicate ops.toArray.size false).getD j false=false:=by
  intro j;rw[DJ,QY];split<;>rfl
 refine ZA hd tr hK _ _ β a w.drew (by simp) (λj o _ hj=>by simp only[hnone]at hj;simp at hj) ?_ ?_ ?_
 ·have: ∀ m,FC (λj=>(Array.replicate ops.toArray.size false).getD j false) m<=m:=by
   intro m
   induction m with
   |zero=>exact AD _
   |succ m ih=>unfold FC;split<;>omega
  simpa using this ops.length
 ·rw [hval,hheap];exact⟨s1,λt=>s2.rep (st.rep t),st.size,st.defers⟩
 ·rw [hheap];exact λa' w' ht=>hk' a' w' (ht.mono s2 (λ_ _ x=>x))
end
end Go.AM
namespace Go.AM
mutual
def BB(n:Nat):PV->Prop
 | .sc _=>True
 | .ptr id _ _=>id<n
 | .cptr cs=>BT n cs
 | .own id _ _=>id<n
 | .imm _ rows=>B1 n rows
 | .emp=>True
 | .mp id=>id<n
 | .agg cs=>BT n cs
 | .tup cs=>BT n cs
 | .fn _ a b=>BT n a/\BT n b
 | .ab _ _ _ _ _=>True
def BT(n:Nat):List PV->Prop
 |[]=>True
 |p::ps=>BB n p/\BT n ps
def B1(n:Nat):List (List PV)->Prop
 |[]=>True
 |r::rs=>BT n r/\B1 n rs
end
mutual
theorem ZC{n m:Nat}(h:n<=m):(p:PV)->BB n p->BB m p
 | .sc _,_=>by simp only[BB]
 | .ptr _ _ _,hp=>by simp only[BB]at hp⊢;omega
 | .cptr cs,hp=>by simp only[BB]at hp⊢;exact KQ h cs hp
 | .own _ _ _,hp=>by simp only[BB]at hp⊢;omega
 | .imm _ rows,hp=>by simp only[BB]at hp⊢;exact Qu h rows hp
 | .emp,_=>by simp only[BB]
 | .mp _,hp=>by simp only[BB]at hp⊢;omega
 | .agg cs,hp=>by simp only[BB]at hp⊢;exact KQ h cs hp
 | .tup cs,hp=>by simp only[BB]at hp⊢;exact KQ h cs hp
 | .fn _ a b,hp=>by simp only[BB]at hp⊢;exact⟨KQ h a hp.1,KQ h b hp.2⟩
 | .ab _ _ _ _ _,_=>by simp only[BB]
theorem KQ{n m:Nat}(h:n<=m):(l:List PV)->BT n l->BT m l
 |[],_=>by simp only[BT]
 |p::ps,hp=>by simp only[BT]at hp⊢;exact⟨ZC h p hp.1,KQ h ps hp.2⟩
theorem Qu{n m:Nat}(h:n<=m):(l:List (List PV))->B1 n l->B1 m l
 |[],_=>by simp only[B1]
 |p::ps,hp=>by simp only[B1]at hp⊢;exact⟨KQ h p hp.1,Qu h ps hp.2⟩
end
def Ec(n:Nat):Ab->Prop
 | .arr _ rows=>B1 n rows
 | .map es=>BT n (es.map (·.2))
 | .glb _ _ _=>True
section
variable {β:BH}{n m:Nat}{F F':Nat->Prop}{w:World}
mutual
theorem A8.inN:(p:PV)->(x:Value)->A8 β m F w p x->BB m p
 | .sc _,_,_=>by simp only[BB]
 | .ptr _ _ _,_,h=>by simp only[BB];simp only[A8]at h;exact h.1
 | .cptr cs,_,h=>by simp only[BB];simp only[A8]at h;obtain⟨b,o,_,_,h3⟩:=h;exact BY.inN cs b o h3
 | .own _ _ _,_,h=>by simp only[BB];simp only[A8]at h;exact h.1
 | .imm z rows,_,h=>by
  simp only[BB];simp only[A8]at h;obtain⟨a,cap,_,_,_,h3⟩:=h;rcases h3 with rfl|⟨b,o,_,_,h5⟩
  ·simp only[B1]
  ·exact BF.inN z rows b o h5
 | .emp,_,_=>by simp only[BB]
 | .mp _,_,h=>by simp only[BB];simp only[A8]at h;exact h.1
 | .agg cs,_,h=>by simp only[BB];simp only[A8]at h;obtain⟨xs,_,_,h3⟩:=h;exact AS.inN cs xs h3
 | .tup cs,_,h=>by simp only[BB];simp only[A8]at h;obtain⟨xs,_,h3⟩:=h;exact AS.inN cs xs h3
 | .fn _ a b,_,h=>by simp only[BB];simp only[A8]at h;obtain⟨xs,ys,_,h3,h4⟩:=h;exact⟨AS.inN a xs h3,AS.inN b ys h4⟩
 | .ab _ _ _ _ _,_,_=>by simp only[BB]
theorem BY.inN:(l:List PV)->(b o:Nat)->BY β m F w l b o->BT m l
 |[],_,_,_=>by simp only[BT]
 |p::ps,b,o,h=>by
  simp only[BT];simp only[BY]at h;obtain⟨⟨v,_,_,h3⟩,h4⟩:=h;exact⟨A8.inN p v h3,BY.inN ps b (o+1) h4⟩
theorem BF.inN(z:Nat):(l:List (List PV))->(b o:Nat)->BF β m F w z l b o->B1 m l
 |[],_,_,_=>by simp only[B1]
 |r::rs,b,o,h=>by
  simp only[B1];simp only[BF]at h;exact⟨BY.inN r b o h.1.2,BF.inN z rs b (o+z) h.2⟩
theorem AS.inN:(l:List PV)->(xs:List Value)->AS β m F w l xs->BT m l
 |[],_,_=>by simp only[BT]
 |_::_,[],h=>by simp only[AS]at h
 |p::ps,v::vs,h=>by
  simp only[BT];simp only[AS]at h;exact⟨A8.inN p v h.1,AS.inN ps vs h.2⟩
end
mutual
theorem A8.low(hF: ∀ b,F b->F' b):(p:PV)->(x:Value)->BB n p->A8 β m F w p x->A8 β n F' w p x
 | .sc _,_,_,h=>by simpa only[A8]using h
 | .ptr _ _ _,_,hs,h=>by simp only[BB]at hs;simp only[A8]at h⊢;exact⟨hs,h.2⟩
 | .cptr cs,_,hs,h=>by
  simp only[BB]at hs;simp only[A8]at h⊢;obtain⟨b,o,h1,h2,h3⟩:=h;exact⟨b,o,hF b h1,h2,BY.low hF cs b o hs h3⟩
 | .own _ _ _,_,hs,h=>by simp only[BB]at hs;simp only[A8]at h⊢;exact⟨hs,h.2⟩
 | .imm z rows,_,hs,h=>by
  simp only[BB]at hs;simp only[A8]at h⊢;obtain⟨a,cap,h1,h2,h2',h3⟩:=h;exact⟨a,cap,h1,h2,h2',h3.imp id λ⟨b,o,g1,g2,g3⟩=>⟨b,o,hF b g1,g2,BF.low hF z rows b o hs g3⟩⟩
 | .emp,_,_,h=>by simpa only[A8]using h
 | .mp _,_,hs,h=>by simp only[BB]at hs;simp only[A8]at h⊢;exact⟨hs,h.2⟩
 | .agg cs,_,hs,h=>by
  simp only[BB]at hs;simp only[A8]at h⊢;obtain⟨xs,h1,h2,h3⟩:=h;exact⟨xs,h1,h2,AS.low hF cs xs hs h3⟩
 | .tup cs,_,hs,h=>by
  simp only[BB]at hs;simp only[A8]at h⊢;obtain⟨xs,h1,h3⟩:=h;exact⟨xs,h1,AS.low hF cs xs hs h3⟩
 | .fn _ a b,_,hs,h=>by
  simp only[BB]at hs;simp only[A8]at h⊢;obtain⟨xs,ys,h1,h3,h4⟩:=h;exact⟨xs,ys,h1,AS.low hF a xs hs.1 h3,AS.low hF b ys hs.2 h4⟩
 | .ab _ _ _ _ _,_,_,h=>by simpa only[A8]using h
theorem BY.low(hF: ∀ b,F b->F' b):(l:List PV)->(b o:Nat)->BT n l->BY β m F w l b o->BY β n F' w l b o
 |[],_,_,_,_=>by simp only[BY]
 |p::ps,b,o,hs,h=>by
  simp only[BT]at hs;simp only[BY]at h⊢;obtain⟨⟨v,h1,h2,h3⟩,h4⟩:=h;exact⟨⟨v,h1,h2,A8.low hF p v hs.1 h3⟩,BY.low hF ps b (o+1) hs.2 h4⟩
theorem BF.low(hF: ∀ b,F b->F' b)(z:Nat):(l:List (List PV))->(b o:Nat)->B1 n l->BF β m F w z l b o->BF β n F' w z l b o
 |[],_,_,_,_=>by simp only[BF]
 |r::rs,b,o,hs,h=>by
  simp only[B1]at hs;simp only[BF]at h⊢;exact⟨⟨h.1.1,BY.low hF r b o hs.1 h.1.2⟩,BF.low hF z rs b (o+z) hs.2 h.2⟩
theorem AS.low(hF: ∀ b,F b->F' b):(l:List PV)->(xs:List Value)->BT n l->AS β m F w l xs->AS β n F' w l xs
 |[],[],_,_=>by simp only[AS]
 |[],_::_,_,h=>by simp only[AS]at h
 |_::_,[],_,h=>by simp only[AS]at h
 |p::ps,v::vs,hs,h=>by
  simp only[BT]at hs;simp only[AS]at h⊢;exact⟨A8.low hF p v hs.1 h.1,AS.low hF ps vs hs.2 h.2⟩
end
end
theorem BI.low{β:BH}{n m:Nat}{F F':Nat->Prop}{w:World}(hF: ∀ b,F b->F' b){k:MV}{o:Ab}(hs:Ec n o)(hk:BI β m F w k o):BI β n F' w k o:=by
 cases o with
 |arr z rows=>
  simp only[BI]at hk⊢;refine⟨hk.1,hk.2.imp id ?_⟩;rintro⟨b,c,e,fr,g1,g2,g3,g4,g5,g6⟩;exact⟨b,c,e,fr,g1,g2,g3,g4,g5,BF.low hF z rows _ _ hs g6⟩
 |map es=>
  simp only[BI]at hk⊢;obtain⟨b,fs,cl,g1,g2,g3⟩:=hk;refine⟨b,fs,cl,g1,g2,?_⟩;simp only[Ec]at hs;have: ∀ (es:List (Value × PV))(fs:List MapEntry),BT n (es.map (·.2))->CH β m F w es fs->CH β n F' w es fs:=by
   intro es
   induction es with
   |nil=>intro fs _ h;cases fs<;>simp_all [CH]
   |cons e es ih=>
    intro fs hs h;cases fs with
    |nil=>simp[CH]at h
    |cons f fs=>
     simp only[BS,BT]at hs;simp only[CH]at h⊢;exact⟨⟨h.1.1,A8.low hF _ _ hs.1 h.1.2⟩,ih fs hs.2 h.2⟩
  exact this _ _ hs g3
 |glb g lo hi=>
  simp only[BI]at hk⊢;exact⟨hk.1,hF g hk.2.1,hk.2.2⟩
theorem BI.inN{β:BH}{m:Nat}{F:Nat->Prop}{w:World}{k:MV}{o:Ab}(hk:BI β m F w k o):Ec m o:=by
 cases o with
 |arr z rows=>
  simp only[BI]at hk;simp only[Ec];rcases hk.2 with⟨_,rfl⟩|⟨b,c,e,fr,g1,g2,g3,g4,g5,g6⟩
  ·simp only[B1]
  ·exact BF.inN z rows _ _ g6
 |map es=>
  simp only[BI]at hk;obtain⟨b,fs,cl,g1,g2,g3⟩:=hk;simp only[Ec];have: ∀ (es:List (Value × PV))(fs:List MapEntry),CH β m F w es fs->BT m (es.map (·.2)):=by
   intro es
   induction es with
   |nil=>intro fs _;simp only[B5,BT]
   |cons e es ih=>
    intro fs h;cases fs with
    |nil=>simp[CH]at h
    |cons f fs=>
     simp only[CH]at h;simp only[BS,BT];exact⟨A8.inN _ _ h.1.2,ih fs h.2⟩
  exact this _ _ g3
 |glb g lo hi=>simp only[Ec]
end Go.AM
