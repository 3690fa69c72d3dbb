/- What the claim rests on, part 2: the abstract machine, contracts of the functions, plain data. -/
import Derived.Laws.StructEq
import Derived.Laws.IdiomStrings
import Derived.Laws.BytesString
import Derived.Orders
import Derived.Test.YtblgchkahpgdjaaGreatZm1
set_option linter.unusedVariables false
set_option linter.unusedSimpArgs false
set_option linter.unusedSectionVars false
namespace Go.AM
section
variable {P:Program}{β β':BK}{h h':A0}{w w':World}{s:AE}{a:Act}
theorem PG{n:Nat}{F:Nat->Prop}(v:Value):AA β n F w (Gi v) v:=by
 cases v<;>simp only[Gi]<;>try simp only[AA]
 split
 ·rename_i cs hc;simp only[AA];exact⟨cs.toList,by simp,List.all_eq_true.1 hc,AT.sc _⟩
 ·simp only[AA]
theorem Nf(a b:ByteArray):(a==b)=true↔a=b:=by
 obtain⟨x⟩:=a;obtain⟨y⟩:=b;rw[ByteArray.mk.injEq];show(x==y)=true↔x=y;exact F0
theorem Zj{k k':Value}(he:ID k k'=some true):k=k':=by
 cases k<;>cases k'<;>simp only[ID,BC,reduceCtorEq]at he
 ·simp [F0.1 he]
 ·split at he<;>simp at he;simp[*]
 ·rw [(Nf _ _).1 he]
def JG(kd:TypeDesc)(kt:Nat):Prop:=match kd with
 | .bool=>kt=1
 | .int _=>kt=2
 | .string=>kt=3
 |_=>False
theorem Mh{kd:TypeDesc}{k k':Value}{b:Bool}{kt:Nat}(hk:G6 kt k=true)(hd:JG kd kt)(he:ID k k'=some b):Instr.sameNow kd k k'=some b:=by
 cases k<;>cases k'<;>simp[ID]at he<;>simp[G6]at hk<;>subst hk<;>cases kd<;>simp[JG]at hd<;>simp[Instr.sameNow,he]
theorem U0{n:Nat}{F:Nat->Prop}{kd:TypeDesc}{k:Value}{kt:Nat}(hk:G6 kt k=true)(hd:JG kd kt): ∀ (es:List (Value × PV))(fs:List MapEntry)(i:Nat),CO β n F w es fs->Hg k es=some none->Instr.findNow kd k fs i=some none
 |[],[],i,_,_=>by simp[Instr.findNow]
 |[],_::_,_,h,_=>by simp[CO]at h
 |_::_,[],_,h,_=>by simp[CO]at h
 |(k',p)::es,f::fs,i,h,hm=>by
  simp only[CO]at h;simp only[Hg]at hm;split at hm
  ·simp at hm
  ·rename_i he;simp only[Instr.findNow,h.1.1,Mh hk hd he];exact U0 hk hd es fs (i+1) h.2 hm
  ·simp at hm
theorem U1{n:Nat}{F:Nat->Prop}{kd:TypeDesc}{k:Value}{v:PV}{kt:Nat}(hk:G6 kt k=true)(hd:JG kd kt): ∀ (es:List (Value × PV))(fs:List MapEntry)(i:Nat),CO β n F w es fs->Hg k es=some (some v)->
  ∃ j e,Instr.findNow kd k fs i=some (some (i+j,e.val))/\fs[j]? =some e/\AA β n F w v e.val
 |[],[],i,_,hm=>by simp[Hg]at hm
 |[],_::_,_,h,_=>by simp[CO]at h
 |_::_,[],_,h,_=>by simp[CO]at h
 |(k',p)::es,f::fs,i,h,hm=>by
  simp only[CO]at h;simp only[Hg]at hm;split at hm
  ·rename_i he;simp at hm;subst hm;exact⟨0,f,by simp only[Instr.findNow,h.1.1,Mh hk hd he,GC],rfl,h.1.2⟩
  ·rename_i he;obtain⟨j,e,h1,h2,h3⟩:=U1 hk hd es fs (i+1) h.2 hm;refine⟨j+1,e,?_,by simpa using h2,h3⟩;simp only[Instr.findNow,h.1.1,Mh hk hd he,h1];congr 3;omega
  ·simp at hm
theorem U2{n:Nat}{F:Nat->Prop}{kd:TypeDesc}{k:Value}{v:PV}{x:Value}{kt:Nat}(hk:G6 kt k=true)(hd:JG kd kt)(hx:AA β n F w v x): ∀ (es es':List (Value × PV))(fs:List MapEntry)(i:Nat),CO β n F w es fs->IE k v es=some es'->
  (Instr.findNow kd k fs i=some none/\ ∀ born,CO β n F w es' (fs++[⟨k,x,born⟩]))\/
  (∃ j e,Instr.findNow kd k fs i=some (some (i+j,e.val))/\fs[j]? =some e/\e.key=k/\CO β n F w es' (fs.set j {e with key:=k,val:=x}))
 |[],es',[],i,_,hm=>by
  simp[IE]at hm;subst hm;exact .inl ⟨by simp[Instr.findNow],λborn=>by simp only[List.nil_append,CO];exact⟨⟨trivial,hx⟩,trivial⟩⟩
 |[],_,_::_,_,h,_=>by simp[CO]at h
 |_::_,_,[],_,h,_=>by simp[CO]at h
 |(k',p)::es,es',f::fs,i,h,hm=>by
  simp only[CO]at h;simp only[IE]at hm;split at hm
  ·rename_i he;simp at hm;subst hm;refine .inr ⟨0,f,by simp only[Instr.findNow,h.1.1,Mh hk hd he,GC],rfl,by rw[h.1.1,Zj he],?_⟩;simp only[List.set_cons_zero,CO];exact⟨⟨trivial,hx⟩,h.2⟩
  ·rename_i he;cases hm2:IE k v es with
   |none=>simp[hm2]at hm
   |some es2=>
    simp[hm2]at hm;subst hm;rcases U2 hk hd hx es es2 fs (i+1) h.2 hm2 with⟨h1,h2⟩|⟨j,e,h1,h2,h3,h4⟩
    ·refine .inl ⟨by simp only[Instr.findNow,h.1.1,Mh hk hd he,h1],λborn=>?_⟩;simp only[List.cons_append,CO];exact⟨h.1,h2 born⟩
    ·refine .inr ⟨j+1,e,?_,by simpa using h2,h3,?_⟩
     ·simp only[Instr.findNow,h.1.1,Mh hk hd he,h1];congr 3;omega
     ·simp only[List.set_cons_succ,CO];exact⟨h.1,h4⟩
  ·simp at hm
theorem U3{t:Nat}{m:Nat × Value}(hm:Jn P t=some m): ∃ k e i,P.underlying t=some (.map k e)/\P.info? e=some i/\i.zero=some m.2/\kT P k=m.1:=by
 unfold Jn at hm;split at hm
 ·rename_i k e hu;unfold LZ at hm;cases hi:P.info? e with
  |none=>simp[hi]at hm
  |some i=>
   cases hz:i.zero with
   |none=>simp[hi,hz]at hm
   |some z=>simp[hi,hz]at hm;subst hm;exact⟨k,e,i,hu,hi,hz,rfl⟩
 ·simp at hm
theorem U4{k:Nat}{kv:Value}{kt:Nat}(hk:G6 kt kv=true)(hkt:kT P k=kt): ∃ kd,P.underlying k=some kd/\JG kd kt:=by
 subst hkt;cases hu:P.underlying k with
 |none=>simp only[kT,hu]at hk;cases kv<;>simp[G6]at hk
 |some kd=>
  refine⟨kd,rfl,?_⟩;simp only[kT,hu]at hk⊢;cases kd<;>simp only[JG]<;>cases kv<;>simp[G6]at hk
theorem Zk{b:Bool}{k n:Nat}{kv:Value}{kd:TypeDesc}{kt:Nat}(hu:P.underlying k=some kd)(hd:JG kd kt)(w:World):(Instr.checkKey b (n+1) k kv).run P w= .ok () w:=by
 cases kd<;>simp[JG]at hd<;>simp[Instr.checkKey,run_underlying hu]
theorem PH{b:Bool}{k:Nat}{kv:Value}{kd:TypeDesc}{kt:Nat}(hu:P.underlying k=some kd)(hd:JG kd kt)(w:World):(Instr.checkKey b 10000 k kv).run P w= .ok () w:=Zk (n:=9999) hu hd w
theorem PK{r:Nat}{fs:Array MapEntry}{cl:Nat}(hr:w.heap[r]? =some (.map fs cl)):(getObj r).run P w= .ok (.map fs cl) w:=by
 simp only[getObj,Sem.run,hr]
theorem Zl(sm:B2 β h w){p:PV}{x:Value}{es:List (Value × PV)}(hv:Mc h p=some es)(hx:AS β h w p x):
  (x= .map none/\es=[])\/ ∃ r fs cl,x= .map (some r)/\w.heap[r]? =some (.map fs cl)/\CO β h.next (Fz β h w) w es fs.toList:=by
 unfold Mc at hv;split at hv
 ·simp at hv;subst hv;simp only[AS,AA]at hx;exact .inl ⟨hx,rfl⟩
 ·rename_i id;split at hv
  ·rename_i es' hob;simp at hv;subst hv;have hok:=sm.ok id _ hob;simp only[BN]at hok;obtain⟨b,fs,cl,h1,h2,h3⟩:=hok;simp only[AS,AA]at hx;obtain⟨_,b',hb',rfl⟩:=hx;rw[h1]at hb';simp at hb';subst hb';exact .inr ⟨b,fs,cl,rfl,h2,h3⟩
  ·simp at hv
 ·simp at hv
theorem Zm(sm:B2 β h w){t:Nat}{m:Nat × Value}{p:PV}{kv x:Value}{es:List (Value × PV)}{r:Option PV}{ok:Bool}(hm:Jn P t=some m)(hv:Mc h p=some es)(hk:G6 m.1 kv=true)
  (hf:Hg kv es=some r)(hx:AS β h w p x):
  ∃ v,(Instr.lookup t x kv ok).run P w= .ok v w/\AS β h w (Jq ok m.2 r) v:=by
 obtain⟨k,e,i,hu,hi,hz,hkt⟩:=U3 hm;obtain⟨kd,hkd,hd⟩:=U4 (P:=P) hk hkt;have hfin: ∀ (fs:Array MapEntry),CO β h.next (Fz β h w) w es fs.toList->(Instr.lookup t x kv ok).run P w=(do
   let (v,ok') ← match ← Instr.findKey k kv fs.toList with
    |some (_,v)=>pure (v,true)
    |none=>pure (← zeroValue e,false)
   pure (if ok then .tuple #[v,.bool ok']else v):Sem Value).run P w-> ∃ v,(Instr.lookup t x kv ok).run P w= .ok v w/\AS β h w (Jq ok m.2 r) v:=by
  intro fs hrep hrun;rw[hrun];cases r with
  |none=>
   have h1:=U0 hk hd es fs.toList 0 hrep hf;have h2:(Instr.findKey k kv fs.toList).run P w= .ok none w:=(by simp[Instr.findKey,run_underlying hkd,h1]);have h3:(zeroValue e).run P w= .ok m.2 w:=(by simp[zeroValue,typeInfo,hi,hz]);refine⟨if ok then .tuple #[m.2,.bool false]else m.2,by simp[h2,h3],?_⟩;cases ok with
   |true=>simp only[Jq,AO,AS,AA];exact⟨[m.2,.bool false],rfl,by simp only[AT,AA];exact⟨PG _,trivial,trivial⟩⟩
   |false=>simp only[Jq,BQ,AP];exact PG _
  |some v=>
   obtain⟨j,en,h1,h2,h3⟩:=U1 hk hd es fs.toList 0 hrep hf;have h4:(Instr.findKey k kv fs.toList).run P w= .ok (some (0+j,en.val)) w:=(by simp[Instr.findKey,run_underlying hkd,h1]);refine⟨if ok then .tuple #[en.val,.bool true]else en.val,by simp[h4],?_⟩;cases ok with
   |true=>simp only[Jq,AO,AS,AA];exact⟨[en.val,.bool true],rfl,by simp only[AT,AA];exact⟨h3,trivial,trivial⟩⟩
   |false=>simp only[Jq,BQ,AP];exact h3
 rcases Zl sm hv hx with⟨rfl,rfl⟩|⟨rr,fs,cl,rfl,h2,h3⟩
 ·refine hfin #[] (by simp[CO]) ?_;simp only[Instr.lookup,Sem.run_bind,run_underlying hu,Result.andThen_ok,Sem.run_pure,PH hkd hd];rfl
 ·refine hfin fs h3 ?_;simp only[Instr.lookup,Sem.run_bind,run_underlying hu,Result.andThen_ok,Sem.run_pure,PH hkd hd,PK h2];rfl
theorem Zn{k:Value}{kt n:Nat}(hk:G6 kt k=true):Instr.sameBits n k k=true:=by
 cases k<;>simp[G6]at hk<;>simp[Instr.sameBits,Nf]
theorem Zo{k:Value}{kt:Nat}(hk:G6 kt k=true):Instr.sameBits 10000 k k=true:=Zn hk
theorem U5{r:Nat}{fs:Array MapEntry}{cl:Nat}(o:Obj)(hr:w.heap[r]? =some (.map fs cl)):(setObj r o).run P w= .ok () {w with heap:=w.heap.setIfInBounds r o}:=by
 simp only[setObj,Sem.run,hr]
theorem B2.Z3(sm:B2 β h w){id b cl cl':Nat}{es es':List (Value × PV)}{fs fs':Array MapEntry}(hob:h.obj id=some (.map es))(hb:(β id).b=some b)(hw:w.heap[b]? =some (.map fs cl))
  (hrep:CO β h.next (Fz β h w) w es' fs'.toList):
  B2 β (h.set id (.map es')) {w with heap:=w.heap.setIfInBounds b (.map fs' cl')}/\BR β h w β (h.set id (.map es')) {w with heap:=w.heap.setIfInBounds b (.map fs' cl')}:=by
 have hlt:b<w.heap.size:=(JB.1 hw).1;refine B2.step sm id (.map es') rfl rfl rfl (by simp) (by simp[A0.set]) (λ_ _=>rfl) (by simp[A0.set]) (sm.lt id (by rw[hob];try rfl)) (λid' hne=> .inr (by simp[A0.set,hne])) (λb' hb'=> .inr ⟨id,by rw[hob];try rfl,hb',.inl rfl⟩) (λb' _ hb'=>?_) (λm=>?_)
 ·have:b≠b':=λe=>hb' (by rw[← e];exact hb);simp[MQ this]
 ·simp only[BN];exact⟨b,fs',cl',hb,by simp[hlt],CO.mv m _ _ hrep⟩
theorem Zp(sm:B2 β h w){t id:Nat}{m:Nat × Value}{kv x y:Value}{q:PV}{es es':List (Value × PV)}(hm:Jn P t=some m)(hob:h.obj id=some (.map es))(hk:G6 m.1 kv=true)
  (hp:IE kv q es=some es')(hx:AS β h w (.mp id) x)(hy:AS β h w q y):
  ∃ w',(Instr.mapUpdate t x kv y).run P w= .ok () w'/\B2 β (h.set id (.map es')) w'/\BR β h w β (h.set id (.map es')) w':=by
 obtain⟨k,e,i,hu,hi,hz,hkt⟩:=U3 hm;obtain⟨kd,hkd,hd⟩:=U4 (P:=P) hk hkt;have hok:=sm.ok id _ hob;simp only[BN]at hok;obtain⟨b,fs,cl,h1,h2,h3⟩:=hok;simp only[AS,AA]at hx;obtain⟨_,b',hb',rfl⟩:=hx;rw[h1]at hb';simp at hb';subst hb';rcases U2 hk hd hy es es' fs.toList 0 h3 hp with⟨g1,g2⟩|⟨j,en,g1,g2,g3,g4⟩
 ·have h4:(Instr.findKey k kv fs.toList).run P w= .ok none w:=by simp[Instr.findKey,run_underlying hkd,g1]
  have:=B2.Z3 sm (cl':=cl+1) (fs':=fs.push ⟨kv,y,cl⟩) hob h1 h2 (by simpa using g2 cl);refine⟨_,?_,this⟩;simp only[Instr.mapUpdate,Sem.run_bind,run_underlying hu,Result.andThen_ok,PH hkd hd,PK h2,h4,U5 _ h2]
 ·have h4:(Instr.findKey k kv fs.toList).run P w= .ok (some (0+j,en.val)) w:=by simp[Instr.findKey,run_underlying hkd,g1]
  have hfs:fs[j]? =some en:=by rw[← MR];exact g2
  have hkk:(((fs[0+j]?).map (·.key)).getD kv)=kv:=by simp[hfs,g3]
  have hmod:(fs.modify (0+j) λe=>{e with key:=kv,val:=y}).toList=fs.toList.set j {en with key:=kv,val:=y}:=by
   rw[C7];apply List.ext_getElem?;intro n;rw[MR,Array.getElem?_modify,List.getElem?_set];by_cases hn:j=n
   ·subst hn;have hjl:j<fs.toList.length:=(List.getElem?_eq_some_iff.1 g2).1;rw[AK rfl,AK rfl,AK hjl,hfs];try rfl
   ·rw [A7 hn,A7 hn];simp
  have:=B2.Z3 sm (cl':=cl) (fs':=fs.modify (0+j) λe=>{e with key:=kv,val:=y}) hob h1 h2 (by rw[hmod];exact g4);refine⟨_,?_,this⟩;have hks:(Instr.keyThatStays kv kv).run P w= .ok kv w:=by simp[Instr.keyThatStays,Zo hk]
  simp only[Instr.mapUpdate,Sem.run_bind,run_underlying hu,Result.andThen_ok,PH hkd hd,PK h2,h4,hkk,hks,U5 _ h2]
theorem Zq(sm:B2 β h w)(t:Nat): ∃ v w' β',(Instr.makeMap t none).run P w= .ok v w'/\B2 β' (h.new (.map [])) w'/\BR β h w β' (h.new (.map [])) w'/\AS β' (h.new (.map [])) w' (.mp h.next) v:=by
 have:=B2.step (h':=h.new (.map [])) (β':=⟨λid=>if id=h.next then⟨some w.heap.size,0,0,0⟩else β id,β.X⟩) (w':=w.alloc (.map #[] 0)) sm h.next (.map []) rfl rfl rfl (by simp) (by simp[A0.new]) (λid hid=>by simp;intro e;omega) (by simp[A0.new]) (by simp[A0.new]) (λid hne=> .inr (by simp[A0.new,hne])) (λb hb=> .inl (by simp at hb;omega)) (λb hb _=>heap_alloc_old w _ hb) (λm=>by
  simp only[BN,AO];exact⟨w.heap.size, #[],0,rfl,heap_alloc_new w _,by simp[CO]⟩)
 refine⟨.map (some w.heap.size),_,_,by simp[Instr.makeMap],this.1,this.2,?_⟩;simp[AS,AA,A0.new]
theorem U6{t:Nat}(hu:Lc P t=true): ∃ e,P.underlying t=some (.slice e)/\P.underlying e=some (.int .u8):=by
 unfold Lc at hu;split at hu
 ·rename_i e he;split at hu
  ·rename_i h2;exact⟨e,he,h2⟩
  ·simp at hu
 ·simp at hu
theorem U7(s:ByteArray)(cap n:Nat)(F:Nat->Prop):HI β n F w 1 (Ef s.data.toList) (bytesRow s cap):=by
 intro i r hr;simp only[Ef,List.getElem?_map]at hr;cases hi:s.data.toList[i]? with
 |none=>simp[hi]at hr
 |some b=>
  simp[hi]at hr;subst hr;refine⟨rfl,λj p hp=>?_⟩;cases j with
  |succ j=>simp at hp
  |zero=>
   simp at hp;subst hp;rw[MR]at hi;have hlt:i<s.data.size:=(JB.1 hi).1;refine⟨.int .u8 b.toNat,?_,by simp[Value.oneCell'],by simp only[AA]⟩;rw[Nat.mul_one,GC,bytesRow,pP (by simpa using hlt)];simp[hi]
theorem Zr(s:ByteArray){cap:Nat}(h:s.size<=cap):(bytesRow s cap).size=cap:=by
 simp[bytesRow];have:s.data.size=s.size:=rfl;omega
theorem B2.pV(sm:B2 β h w)(z:Nat)(rows:List (List PV))(c:Array Value)(e:TypeId)(fr:Nat × Nat)(hfr: ∀ i,i<c.size->¬ (fr.1<=i/\i<fr.2))(hr:HI β h.next (Fz β h w) w z rows c)(hlen:rows.length*z<=c.size):
  B2 ⟨λid=>if id=h.next then⟨some w.heap.size,0,z,c.size⟩else β id,β.X⟩ (h.new (.arr z rows)) (w.alloc (.cells c e fr))/\
  BR β h w ⟨λid=>if id=h.next then⟨some w.heap.size,0,z,c.size⟩else β id,β.X⟩ (h.new (.arr z rows)) (w.alloc (.cells c e fr)):=by
 refine B2.step sm h.next (.arr z rows) rfl rfl rfl (by simp) (by simp[A0.new]) (λid hid=>by simp;intro e;omega) (by simp[A0.new]) (by simp[A0.new]) (λid hne=> .inr (by simp[A0.new,hne])) (λb hb=> .inl (by simp at hb;omega)) (λb hb _=>heap_alloc_old w _ hb) (λm=>?_)
 simp only[BN,AO];exact⟨trivial,.inr ⟨w.heap.size,c,e,fr,rfl,heap_alloc_new w _,rfl,by omega,hfr,hr.rep m (heap_alloc_new w _)⟩⟩
theorem Zs(sm:B2 β h w){src dst:Nat}{s:ByteArray}{ow:Bool}{r:PV}(hs:P.underlying src=some .string)(hu:Lc P dst=true)(hn:s.size<=140737488355328)
  (he:(if ow then some (PV.own h.next 0 s.data.toList.length,h.new (.arr 1 (Ef s.data.toList)))else some (.A1 1 (Ef s.data.toList),h))=some (r,h')):
  ∃ v w' β',(convert src dst (.string s)).run P w= .ok v w'/\B2 β' h' w'/\BR β h w β' h' w'/\AS β' h' w' r v:=by
 obtain⟨e,h1,h2⟩:=U6 hu;have hge:=grownCap_ge w s.size 0 e;have hm:grownCap w s.size 0 e<=maxLen:=grownCap_le_maxLen w _ _ e (by simp only[maxLen];omega);have hsz:=Zr s hge;have hlen:s.data.toList.length=s.size:=by rw[Ed];try rfl
 have hbl:(Ef s.data.toList).length=s.size:=by simp[Ef]
 obtain⟨d1,d2⟩:=sm.drew;cases ow with
 |true=>
  simp at he;obtain⟨rfl,rfl⟩:=he;obtain⟨a1,a2⟩:=B2.pV d1 1 (Ef s.data.toList) (bytesRow s (grownCap w s.size 0 e)) e ((bytesRow s (grownCap w s.size 0 e)).size,(bytesRow s (grownCap w s.size 0 e)).size+1) (λi hi=>by simp only;omega) (U7 s _ _ _) (by rw[hbl,hsz];omega);refine⟨_,_,_,run_bytes_of_string w src dst e s hs h1 h2,a1,d2.trans a2,?_⟩;simp only[AS,AA];refine⟨by simp[A0.new],some ⟨w.heap.size,0,none⟩,grownCap w s.size 0 e,?_,?_,hm,.inr ⟨w.heap.size,?_,?_,?_⟩⟩
  ·simp
  ·simpa using hge
  ·simp
  ·simp
  ·simp [hsz]
 |false=>
  simp at he;obtain⟨rfl,rfl⟩:=he;obtain⟨a1,a2,a3⟩:=d1.Ql (.cells (bytesRow s (grownCap w s.size 0 e)) e ((bytesRow s (grownCap w s.size 0 e)).size,(bytesRow s (grownCap w s.size 0 e)).size+1));refine⟨_,_,β,run_bytes_of_string w src dst e s hs h1 h2,a1,d2.trans a2,?_⟩;simp only[AS,AA];refine⟨some ⟨w.heap.size,0,none⟩,grownCap w s.size 0 e,by rw[hbl],by rw[hbl];exact hge,hm,.inr ⟨w.heap.size,0,a3,rfl,?_⟩⟩;exact(U7 s _ _ _).rep a2.mv (heap_alloc_new w.drew _)
theorem Zt{n:Nat}{F:Nat->Prop}: ∀ {rows:List (List PV)}{l:List UInt8}{xs:List Value},Im rows=some l->AT β n F w rows.flatten xs-> ∃ ns:List Int,xs=ns.map (Value.int .u8)/\ns.map (λn=>UInt8.ofNat n.toNat)=l:=by
 intro rows
 induction rows with
 |nil=>intro l xs hb hx;simp[Im]at hb;subst hb;cases xs<;>simp[AT]at hx;exact⟨[],rfl,rfl⟩
 |cons r rows ih=>
  intro l xs hb hx;unfold Im at hb;split at hb
  ·simp_all
  ·rename_i n' rest heq;simp only[List.cons.injEq]at heq;obtain⟨rfl,rfl⟩:=heq;cases hr:Im rows with
   |none=>simp[hr]at hb
   |some l'=>
    simp[hr]at hb;subst hb;cases xs with
    |nil=>simp[AT]at hx
    |cons x xs=>
     simp only[List.flatten_cons,List.cons_append,List.nil_append,AT,AA]at hx;obtain⟨ns,h1,h2⟩:=ih hr hx.2;exact⟨n'::ns,by simp[hx.1,h1],by simp[h2]⟩
  ·simp at hb
theorem Zu(ns:List Int)(s:ByteArray):ns.foldl (λr n=>r.push (UInt8.ofNat n.toNat)) s=⟨(s.data.toList++ns.map λn=>UInt8.ofNat n.toNat).toArray⟩:=by
 induction ns generalizing s with
 |nil=>simp
 |cons n ns ih=>rw[List.foldl_cons,ih];simp[ByteArray.push]
theorem Zv(sm:B2 β h w){src dst:Nat}{y:PV}{rows:List (List PV)}{l:List UInt8}{x:Value}(hu:Lc P src=true)(hd:P.underlying dst=some .string)(hz:Dx h 1 y=true)(hv:Gj h y=some rows)(hb:Im rows=some l)
  (hx:AS β h w y x):(convert src dst x).run P w= .ok (.string ⟨l.toArray⟩) w:=by
 obtain⟨e,h1,h2⟩:=U6 hu;obtain⟨aa,cap,rfl,hle,h3⟩:=Qz sm hv hz hx;rw[run_convert_bytes_string w src dst e aa _ _ h1 h2 hd];have hz1: ∀ r∈rows,r.length=1:=by
  rcases h3 with rfl|⟨b,o,_,h4⟩
  ·simp
  ·exact h4.lens
 obtain⟨ys,hyr,hyl,hy1,hyn⟩:=PF (P:=P) (w:=w) (cap:=cap) hz1 h3;obtain⟨ns,rfl,hns⟩:=Zt hb hyl;cases aa with
 |none=>
  rcases h3 with rfl|⟨b,o,h4,_⟩
  ·simp [Im]at hb;subst hb;simp[Conv.bytesToString];rfl
  ·simp at h4
 |some aa=>
  have hld:(loadCells aa rows.length).run P w= .ok (ns.map (Value.int .u8)).toArray w:=by
   rcases h3 with rfl|⟨b,o,h4,h5⟩
   ·have:ns=[]:=(by simpa using hyn);subst this;simp[loadCells,loadCellsFrom]
   ·simpa [Builtin.firstCells]using hyr
  rw[run_bytesToString w aa _ cap ns hld,Zu,hns];simp
theorem Zw{t:Nat}(hk:kT P t=1):P.underlying t=some .bool:=by unfold kT at hk;split at hk<;>first|assumption|(simp at hk)
theorem Ng{t:Nat}(hk:kT P t=4): ∃ e,P.underlying t=some (.pointer e):=by unfold kT at hk;split at hk<;>first|exact⟨_, ‹_›⟩|(simp at hk)
theorem PL{t:Nat}(hk:kT P t=6): ∃ k e,P.underlying t=some (.map k e):=by unfold kT at hk;split at hk<;>first|exact⟨_,_, ‹_›⟩|(simp at hk)
theorem PM{t:Nat}(hk:kT P t=5): ∃ e,P.underlying t=some (.slice e):=by unfold kT at hk;split at hk<;>first|exact⟨_, ‹_›⟩|(simp at hk)
theorem R8{t:Nat}(hk:kT P t=7): ∃ ms,P.underlying t=some (.interface ms):=by unfold kT at hk;split at hk<;>first|exact⟨_, ‹_›⟩|(simp at hk)
theorem U8{n:Nat}{F:Nat->Prop}{t d:Nat}{p q:PV}{x y:Value}{b:Bool}{c:Bool}(he:Ee (kT P t) c p q=some b)(hx:AA β n F w p x)(hy:AA β n F w q y):
  (Op.equalIn (d+1) t x y).run P w= .ok b w/\ ∀ (op:BinOp)(u v:Operand),c=(Fl u||Fl v)->(eqGuard op t u v x y).run P w= .ok () w:=by
 unfold Ee at he;split at he<;>(try(simp at he;done))<;>(split at he<;>(try(simp at he;done)))<;>rename_i hk<;>simp at he<;>subst he
 ·simp only[AA]at hx hy;subst hx;subst hy;refine⟨by simp[Op.equalIn,run_underlying (Zw hk)],λop u v _=>by cases op<;>rfl⟩
 ·obtain ⟨ms,hu⟩:=R8 hk.1;simp only[AA]at hx hy;subst hx;subst hy;refine⟨by simp[Op.equalIn,run_underlying hu],λop u v hc=>?_⟩;rw[hk.2]at hc;have hor:Fl u=true\/Fl v=true:=(EH _ _).mp hc.symm;rcases hor with h1|h1
  ·cases u<;>simp[Fl]at h1;cases op<;>rfl
  ·cases v<;>simp[Fl]at h1;cases op<;>cases u<;>rfl
 ·obtain ⟨ms,hu⟩:=R8 hk;simp only[AA]at hx hy;subst hx;subst hy;exact⟨by simp[Op.equalIn,run_underlying hu],λop u v _=>by cases op<;>rfl⟩
 ·obtain ⟨ms,hu⟩:=R8 hk;simp only[AA]at hx hy;subst hx;subst hy;exact⟨by simp[Op.equalIn,run_underlying hu],λop u v _=>by cases op<;>rfl⟩
 ·obtain ⟨e,hu⟩:=Ng hk;simp only[AA]at hx hy;subst hx;subst hy;exact⟨by simp[Op.equalIn,run_underlying hu],λop u v _=>by cases op<;>rfl⟩
 ·obtain ⟨e,hu⟩:=Ng hk;simp only[AA]at hx hy;obtain⟨_,b,_,rfl⟩:=hx;subst hy;exact⟨by simp[Op.equalIn,run_underlying hu],λop u v _=>by cases op<;>rfl⟩
 ·obtain ⟨e,hu⟩:=Ng hk;simp only[AA]at hx hy;obtain⟨_,b,_,rfl⟩:=hy;subst hx;exact⟨by simp[Op.equalIn,run_underlying hu],λop u v _=>by cases op<;>rfl⟩
 ·obtain ⟨e,hu⟩:=Ng hk;simp only[AA]at hx hy;obtain⟨b,o,_,rfl,_⟩:=hx;subst hy;exact⟨by simp[Op.equalIn,run_underlying hu],λop u v _=>by cases op<;>rfl⟩
 ·obtain ⟨e,hu⟩:=Ng hk;simp only[AA]at hx hy;obtain⟨b,o,_,rfl,_⟩:=hy;subst hx;exact⟨by simp[Op.equalIn,run_underlying hu],λop u v _=>by cases op<;>rfl⟩
 ·obtain ⟨k,e,hu⟩:=PL hk;simp only[AA]at hx hy;obtain⟨_,b,_,rfl⟩:=hx;subst hy;exact⟨by simp[Op.equalIn,run_underlying hu],λop u v _=>by cases op<;>rfl⟩
 ·obtain ⟨k,e,hu⟩:=PL hk;simp only[AA]at hx hy;subst hx;subst hy;exact⟨by simp[Op.equalIn,run_underlying hu],λop u v _=>by cases op<;>rfl⟩
 ·obtain ⟨e,hu⟩:=PM hk;simp only[AA]at hx hy;subst hx;subst hy;exact⟨by simp[Op.equalIn,run_underlying hu],λop u v _=>by cases op<;>rfl⟩
 ·obtain ⟨e,hu⟩:=PM hk;simp only[AA]at hx hy;subst hx;subst hy;exact⟨by simp[Op.equalIn,run_underlying hu],λop u v _=>by cases op<;>rfl⟩
 ·obtain ⟨e,hu⟩:=PM hk.1;simp only[AA]at hx hy;obtain⟨a,cap,rfl,_,_,hr⟩:=hx;subst hy;rcases hr with rfl|⟨b,o,_,rfl,_⟩
  ·simp at hk
  ·exact ⟨by simp[Op.equalIn,run_underlying hu],λop u v _=>by cases op<;>rfl⟩
 ·obtain ⟨e,hu⟩:=PM hk.1;simp only[AA]at hx hy;obtain⟨_,a,cap,rfl,hlc,_,hr⟩:=hx;subst hy;rcases hr with rfl|⟨b,_,rfl,_⟩
  ·omega
  ·exact ⟨by simp[Op.equalIn,run_underlying hu],λop u v _=>by cases op<;>rfl⟩
theorem R9{op:BinOp}{t:Nat}{k k':IntKind}{a b:Int}{v:Value}(hv:(if Ij op then La op k a b else if k=k' then EA op k a b else none)=some v)(u1 u2:Operand):
    (do eqGuard op t u1 u2 (.int k a) (.int k' b);binOp op t (.int k a) (.int k' b):Sem Value).run P w= .ok v w:=by
  have hg:eqGuard op t u1 u2 (.int k a) (.int k' b)=pure ():=by cases op<;>rfl
  rw[hg];simp only[pure_bind];cases op<;>simp only[Ij,BQ,AP,AO]at hv;all_goals first
    | (simp only [La] at hv
       split at hv
       · simp at hv
       · rename_i hb;simp at hv;subst hv;simp[binOp,Op.shift,hb];done)
    | (split at hv
       · rename_i hk;subst hk;simp only[EA]at hv;first
           |(simp at hv;done)
           |(simp at hv;subst hv;simp[binOp,Op.intArith,Op.intBits,Op.intCmp,NU,NV,NW,NX];done)
           | (split at hv
              · simp at hv
              · rename_i hb;simp at hv;subst hv;simp[binOp,Op.intDiv,hb])
       · simp at hv)
theorem Zx{op:BinOp}{t:Nat}{a b:ByteArray}{v:Value}(hv:IB op a b=some v)(u1 u2:Operand):
    (do eqGuard op t u1 u2 (.string a) (.string b);binOp op t (.string a) (.string b):Sem Value).run P w= .ok v w:=by
  have hg:eqGuard op t u1 u2 (.string a) (.string b)=pure ():=by cases op<;>rfl
  rw[hg];simp only[pure_bind];cases op<;>simp only[IB]at hv<;>first
    |(simp at hv;done)
    |(simp at hv;subst hv;simp[binOp,Op.stringOp,ByteArray.toList_eq];done)
    | (split at hv
       · simp at hv
       · rename_i hb;simp at hv;subst hv;simp only[binOp,Op.stringOp,hb,AP];rfl)
theorem Zy{n:Nat}{F:Nat->Prop}{op:BinOp}{t:Nat}{p q r:PV}{x y:Value}(u1 u2:Operand)(hv:Ik op (kT P t) (Fl u1||Fl u2) p q=some r)(hx:AA β n F w p x)(hy:AA β n F w q y):
  ∃ v,(do eqGuard op t u1 u2 x y;binOp op t x y:Sem Value).run P w= .ok v w/\AA β n F w r v:=by
 unfold Ik at hv;split at hv
 ·rename_i k a k' b;simp only[AA]at hx hy;subst hx;subst hy;cases hh:(if Ij op then La op k a b else if k=k' then EA op k a b else none)with
  |none=>simp[hh]at hv
  |some v=>
   rw[hh]at hv;simp at hv;subst hv;exact⟨v,R9 hh u1 u2,by simp only[AA]⟩
 ·simp only[AA]at hx hy;subst hx;subst hy;rename_i a b;cases hh:IB op a b with
  |none=>simp[hh]at hv
  |some v=>
   simp[hh]at hv;subst hv;exact⟨v,Zx hh u1 u2,by simp only[AA]⟩
 ·rename_i k lo hi m r0 k' c;simp only[AA]at hx hy;subst hy;obtain⟨i,i1,i2,i3,rfl⟩:=hx;unfold TY at hv;split at hv
  case isFalse=>simp at hv
  rename_i hk;subst hk;have key: ∀ v,EA op k i c=some v->Ij op=false-> ∃ v',(do eqGuard op t u1 u2 (.int k i) (.int k c);binOp op t (.int k i) (.int k c):Sem Value).run P w= .ok v' w/\AA β n F w (.sc v) v':=by
   intro v hpv hns;exact⟨v,R9 (by rw[hns,A7 (by simp),AK rfl];exact hpv) u1 u2,by simp only[AA]⟩
  split at hv
  ·split at hv
   ·rename_i hc;simp at hv;subst hv;obtain⟨rfl,hm⟩:=hc;have hpi:EA .rem k i c=some (.int k r0):=(by unfold EA;simp only;rw[A7 (by omega),i3]);exact key _ hpi rfl
   ·simp at hv
  ·rename_i hop;cases hc:MW op lo hi c with
   |none=>simp[hc]at hv
   |some b=>
    simp[hc]at hv;subst hv;have h1:EA op k i c=some (.bool b)/\Ij op=false:=by
     unfold MW at hc;split at hc<;>(try(simp at hc;done))<;>(refine⟨?_,rfl⟩)<;>simp only[EA,BC,Value.bool.injEq];all_goals(split at hc<;>(try(split at hc))<;>(try(simp at hc;done))<;>(simp at hc;subst hc;simp;omega))
    exact key _ h1.1 h1.2
 ·rename_i k' c k lo hi m r0;simp only[AA]at hx hy;subst hx;obtain⟨i,i1,i2,i3,rfl⟩:=hy;unfold TZ at hv;split at hv
  case isFalse=>simp at hv
  rename_i hk;subst hk;have key: ∀ v,EA op k c i=some v->Ij op=false-> ∃ v',(do eqGuard op t u1 u2 (.int k c) (.int k i);binOp op t (.int k c) (.int k i):Sem Value).run P w= .ok v' w/\AA β n F w (.sc v) v':=by
   intro v hpv hns;exact⟨v,R9 (by rw[hns,A7 (by simp),AK rfl];exact hpv) u1 u2,by simp only[AA]⟩
  cases hc:MW (Qu op) lo hi c with
  |none=>simp[hc]at hv
  |some b=>
   simp[hc]at hv;subst hv;have h1:EA op k c i=some (.bool b)/\Ij op=false:=by
    unfold MW Qu at hc;cases op<;>simp only at hc<;>(try(simp at hc;done))<;>(refine⟨?_,rfl⟩)<;>simp only[EA,BC,Value.bool.injEq];all_goals(split at hc<;>(try(split at hc))<;>(try(simp at hc;done))<;>(simp at hc;subst hc;simp;omega))
   exact key _ h1.1 h1.2
 ·rename_i hni hns hn1 hn2;have hgen: ∀ b,Ee (kT P t) (Fl u1||Fl u2) p q=some b->binOp .eql t x y=(do pure (.bool (← Op.equal t x y)))/\binOp .neq t x y=(do pure (.bool (!(← Op.equal t x y)))):=by
   intro b hb;unfold Ee at hb;split at hb<;>(try(simp at hb;done))<;>simp only[AA]at hx hy;all_goals first
    |(subst hx;subst hy;exact⟨rfl,rfl⟩)
    |(obtain⟨_,_,_,rfl⟩:=hx;subst hy;exact⟨rfl,rfl⟩)
    |(obtain⟨_,_,_,rfl⟩:=hy;subst hx;exact⟨rfl,rfl⟩)
    |(obtain⟨_,_,_,rfl,_⟩:=hx;subst hy;exact⟨rfl,rfl⟩)
    |(obtain⟨_,_,_,rfl,_⟩:=hy;subst hx;exact⟨rfl,rfl⟩)
    |(obtain⟨_,_,rfl,_⟩:=hx;subst hy;exact⟨rfl,rfl⟩)
  split at hv
  ·cases hb:Ee (kT P t) (Fl u1||Fl u2) p q with
   |none=>simp[hb]at hv
   |some b=>
    simp[hb]at hv;subst hv;obtain⟨h1,h2⟩:=U8 (d:=9999) hb hx hy;refine⟨.bool b,?_,by simp only[AA]⟩;simp only[Sem.run_bind,h2 .eql u1 u2 rfl,Result.andThen_ok,(hgen b hb).1];show((Op.equalIn (9999+1) t x y).run P w).andThen _=_;rw[h1];try rfl
  ·cases hb:Ee (kT P t) (Fl u1||Fl u2) p q with
   |none=>simp[hb]at hv
   |some b=>
    simp[hb]at hv;subst hv;obtain⟨h1,h2⟩:=U8 (d:=9999) hb hx hy;refine⟨.bool (!b),?_,by simp only[AA]⟩;simp only[Sem.run_bind,h2 .neq u1 u2 rfl,Result.andThen_ok,(hgen b hb).2];show((Op.equalIn (9999+1) t x y).run P w).andThen _=_;rw[h1];try rfl
  ·simp at hv
theorem U9{t i:Nat}(hk:kT P t=3){xs:Array Value}{v:Value}(hv:xs[i]? =some v):(part t xs i).run P w= .ok v w:=by
 have hu:P.underlying t=some .string:=by unfold kT at hk;split at hk<;>first|assumption|(simp at hk)
 have ha:Cj P t=false:=by simp[Cj,hk]
 simp[part,Na hu,ha,hv]
theorem UA{n d:Nat}{F:Nat->Prop}{xs ys:List Value}: ∀ (fs:List Field)(i:Nat)(a b:List PV){e:Bool},P9 P i fs=true->Il a b=some e->a.length=fs.length->
  AT β n F w a (xs.drop i)->AT β n F w b (ys.drop i)->(Op.eqFields (d+1) xs.toArray ys.toArray fs).run P w= .ok e w
 |[],i,a,b,e,_,he,hl,_,_=>by
  have:a=[]:=List.length_eq_zero_iff.1 hl;subst this;cases b with
  |nil=>simp[Il]at he;subst he;simp[Op.eqFields]
  |cons=>simp[Il]at he
 |f::fs,i,[],b,e,_,_,hl,_,_=>by simp at hl
 |f::fs,i,p::a,b,e,hs,he,hl,ha,hb=>by
  match p,b,he,ha,hb with
  | .sc (.string s),.sc (.string s')::m,he1,ha1,hb1=>
   simp only[Il,LP]at he1;obtain⟨r,he2,rfl⟩:=he1;simp only[P9,AV,Ba,F0]at hs;obtain⟨⟨⟨hn,ho⟩,hk⟩,hs⟩:=hs;have hu:P.underlying f.type=some .string:=(by unfold kT at hk;split at hk<;>first|assumption|(simp at hk));have get: ∀ (zs:List Value)(s:ByteArray)(l:List PV),AT β n F w (.sc (.string s)::l) (zs.drop i)->zs[i]? =some (.string s)/\AT β n F w l (zs.drop (i+1)):=by
    intro zs s l hz;have hd: ∀ u us,zs.drop i=u::us->zs[i]? =some u/\zs.drop (i+1)=us:=by
     intro u us hu2;have e1:(zs.drop i)[0]? =some u:=(by rw[hu2];try rfl);rw[List.getElem?_drop]at e1;refine⟨by simpa using e1,?_⟩;have e2:=LQ (List.drop 1) hu2;rw[List.drop_drop]at e2;simpa using e2
    cases hc:zs.drop i with
    |nil=>rw[hc]at hz;simp[AT]at hz
    |cons u us=>
     rw[hc]at hz;simp only[AT,AA]at hz;obtain⟨g1,g2⟩:=hd u us hc;rw[g1,hz.1,g2];exact⟨rfl,hz.2⟩
   obtain⟨x1,x2⟩:=get xs s a ha1;obtain⟨y1,y2⟩:=get ys s' m hb1;have ih:=UA (d:=d) fs (i+1) a m hs he2 (by simpa using hl) x2 y2;have q1:=U9 (P:=P) (w:=w) hk (xs:=xs.toArray) (by simpa using x1);have q2:=U9 (P:=P) (w:=w) hk (xs:=ys.toArray) (by simpa using y1);simp only[Op.eqFields,hn,ne_eq,ET,AO,Sem.run_bind,ho,q1,q2,Result.andThen_ok,run_equalIn_string w d f.type s s' hu,ByteArray.toList_eq];cases hc:(s.data.toList==s'.data.toList)
   ·simp
   ·simpa using ih
theorem Zz{n:Nat}{F:Nat->Prop}{op:BinOp}{t:Nat}{p q r:PV}{x y:Value}(u1 u2:Operand)(hv:Kg op (NY P t) p q=some r)(hx:AA β n F w p x)(hy:AA β n F w q y):
  ∃ v,(do eqGuard op t u1 u2 x y;binOp op t x y:Sem Value).run P w= .ok v w/\AA β n F w r v:=by
 unfold Kg at hv;split at hv
 ·rename_i a b;split at hv
  ·rename_i hn;unfold NY at hn;split at hn
   ·rename_i fs hu;split at hn
    ·rename_i hc;obtain⟨hs,hg,hf⟩:=hc;simp only[BC]at hn;simp only[AA]at hx hy;obtain⟨xs,rfl,_,hx⟩:=hx;obtain⟨ys,rfl,_,hy⟩:=hy;have hfo:P.fieldsOf t=fs:=(by unfold Program.fieldsOf;rw[hu]);have key: ∀ e,Il a b=some e->(Op.equalIn 10000 t (.agg xs.toArray) (.agg ys.toArray)).run P w= .ok e w:=by
      intro e he;show(Op.equalIn (9999+1) t _ _).run P w=_;rw[run_equalIn_struct w 9999 t _ _ (by rw[hu,hfo]) hs,hfo];exact UA (d:=9998) fs.toList 0 a b hf he (by rw[← hn];simp) (by simpa using hx) (by simpa using hy)
     cases op<;>simp only[]at hv<;>(try(simp at hv;done))
     ·simp only[LP]at hv;obtain⟨e,he,rfl⟩:=hv;refine⟨.bool e,?_,by simp only[AA]⟩;rw[Sem.run_bind,run_eqGuard_agg w _ t u1 u2 _ _ hg,Result.andThen_ok,run_eql_struct,key e he];try rfl
     ·simp only[LP]at hv;obtain⟨e,he,rfl⟩:=hv;refine⟨.bool !e,?_,by simp only[AA]⟩;rw[Sem.run_bind,run_eqGuard_agg w _ t u1 u2 _ _ hg,Result.andThen_ok,run_neq_struct,key e he];try rfl
    ·simp at hn
   ·simp at hn
  ·simp at hv
 ·simp at hv
end
end Go.AM
namespace Go.AM
section
variable {P:Program}{β:BK}{h h':A0}{w:World}{s:AE}{a:Act}
theorem PN{t:Nat}(hk:kT P t=5): ∃ e,P.underlying t=some (.slice e):=by unfold kT at hk;split at hk<;>first|exact⟨_, ‹_›⟩|(simp at hk)
theorem Nh{t:Nat}(hk:kT P t=3):P.underlying t=some .string:=by unfold kT at hk;split at hk<;>first|assumption|(simp at hk)
theorem aA(sm:B2 β h w){t n:Nat}{p:PV}{x:Value}(ty:TypeId)(hk:GR (kT P t) p=true)(hl:GF h p=some n)(hx:AS β h w p x):(Builtin.len_ #[t] ty #[x]).run P w= .ok (.int .i64 (n:Int)) w:=by
 unfold GF at hl;split at hl
 ·simp [GR]at hk;obtain⟨e,hu⟩:=PN hk;simp at hl;subst hl;simp only[AS,AA]at hx;obtain⟨aa,cap,rfl,_⟩:=hx;simp[Builtin.len_,run_underlying hu,goInt]
 ·simp [GR]at hk;obtain⟨e,hu⟩:=PN hk;simp at hl;subst hl;simp only[AS,AA]at hx;obtain⟨aa,rfl⟩:=hx;simp[Builtin.len_,run_underlying hu,goInt]
 ·simp [GR]at hk;obtain⟨e,hu⟩:=PN hk;simp at hl;subst hl;simp only[AS,AA]at hx;subst hx;simp[Builtin.len_,run_underlying hu,goInt]
 ·simp [GR]at hk;obtain⟨e,hu⟩:=PN hk;simp at hl;subst hl;simp only[AS,AA]at hx;obtain⟨_,aa,cap,rfl,_⟩:=hx;simp[Builtin.len_,run_underlying hu,goInt]
 ·simp [GR]at hk;have hu:=Nh hk;simp at hl;subst hl;simp only[AS,AA]at hx;subst hx;simp[Builtin.len_,run_underlying hu,goInt]
 ·simp [GR]at hk;obtain⟨k,e,hu⟩:=PL hk;simp at hl;subst hl;simp only[AS,AA]at hx;subst hx;simp[Builtin.len_,run_underlying hu,goInt]
 ·simp [GR]at hk;obtain⟨k,e,hu⟩:=PL hk;rename_i id;split at hl
  ·rename_i es hob;simp at hl;subst hl;have hok:=sm.ok id _ hob;simp only[BN]at hok;obtain⟨b,fs,cl,h1,h2,h3⟩:=hok;simp only[AS,AA]at hx;obtain⟨_,b',hb',rfl⟩:=hx;rw[h1]at hb';simp at hb';subst hb';have hlen: ∀ (es:List (Value × PV))(fs:List MapEntry),CO β h.next (Fz β h w) w es fs->es.length=fs.length:=by
    intro es
    induction es with
    |nil=>intro fs;cases fs<;>simp[CO]
    |cons e es ih=>intro fs;cases fs with
     |nil=>simp[CO]
     |cons f fs=>simp only[CO,List.length_cons];intro hh;rw[ih fs hh.2]
   have hh:=hlen es fs.toList h3;simp[Builtin.len_,run_underlying hu,PK h2,goInt,hh]
  ·simp at hl
 ·simp at hl
def Cy(P:Program)(a:Act)(o:Oper)(β:BK)(h:A0)(w:World)(r:PV)(h':A0):Prop:=
 ∃ n v w' β',(execOp a.eval o).run P w= .ok n w'/\(n= .value v\/(n= .skip/\v=undef))/\B2 β' h' w'/\BR β h w β' h' w'/\AS β' h' w' r v
theorem Cy.pure(sm:B2 β h w){o:Oper}{r:PV}{v:Value}(he:(execOp a.eval o).run P w= .ok (.value v) w)(hr:AS β h w r v):Cy P a o β h w r h:=
 ⟨_,v,w,β,he,.inl rfl,sm,BR.refl,hr⟩
theorem UB(sm:B2 β h w)(hs: ∀ t,AS β h w (s t) (a.tmps.getD t undef)){ow:Bool}{r:PV}(o:Oper)(he:AZ P ow o.op (A9 s) h=some (r,h')):Cy P a o β h w r h':=by
 obtain⟨dst,op,type,pos,after,guard⟩:=o;have rep:=Kj hs;simp only at he;cases op
 case move x=>
  simp only[AZ,BC,C4]at he;obtain⟨rfl,rfl⟩:=he;exact Cy.pure sm rfl (rep x)
 case assign x=>
  simp only[AZ,BC,C4]at he;obtain⟨rfl,rfl⟩:=he;exact Cy.pure sm rfl (rep x)
 case pick c x y=>
  simp only[AZ]at he;split at he
  ·rename_i t hc;simp only[BC,C4]at he;obtain⟨rfl,rfl⟩:=he;have h1:=rep c;rw[hc]at h1;simp only[AS,AA]at h1;refine Cy.pure (v:=if t then a.eval x else a.eval y) sm (by cases t<;>simp[execOp,h1,asBool]) ?_;cases t
   ·exact rep y
   ·exact rep x
  ·simp at he
 case alloc t=>
  simp only[AZ]at he;cases hz:DP P t with
  |none=>simp[hz]at he
  |some z=>
   simp only[hz,DJ]at he;split at he
   ·rename_i hpos;simp only[BC,C4]at he;obtain⟨rfl,rfl⟩:=he;obtain⟨i,v,h1,h2,h3,h4⟩:=PD hz;obtain⟨β',g1,g2,g3⟩:=Th sm t v (z.map .sc) (by rw[h3];exact AT.sc z) (by rw[h3];exact h4);rw[List.length_map]at g1 g2 g3;exact⟨_,_,_,β',by simp[execOp,Instr.alloc,zeroValue,typeInfo,h1,h2,PE],.inl rfl,g1,g2,g3⟩
   ·simp at he
 case box t x=>
  simp only[AZ]at he;split at he
  ·simp at he
  ·rename_i hall;simp only[Yp]at hall;obtain⟨hl,h1⟩:=AA.cells hall (rep x);split at he
   ·split at he
    ·simp only[BC,C4]at he;obtain⟨rfl,rfl⟩:=he;obtain⟨β',g1,g2,g3⟩:=Th sm t (a.eval x) _ hl h1;exact⟨_,_,_,β',by simp[execOp,Instr.box,PE],.inl rfl,g1,g2,g3⟩
    ·simp at he
   ·simp only[BC,C4]at he;obtain⟨rfl,rfl⟩:=he;obtain⟨g1,g2,g3⟩:=ZQ sm t (a.eval x) _ hl h1;exact⟨_,_,_,β,by simp[execOp,Instr.box,PE],.inl rfl,g1,g2,g3⟩
 case build t parts=>
  simp only[AZ]at he;split at he
  ·cases hz:DP P t with
   |none=>simp[hz]at he
   |some z=>
    cases hp:Fy P t with
    |none=>simp[hz,hp]at he
    |some places=>
     simp only[hz,hp,DJ]at he;cases hl:IC (λi=>places[i]?) (z.map .sc) (parts.toList.map λp=>(p.1,A9 s p.2))with
     |none=>simp[hl]at he
     |some cs=>
      simp only[hl,Bq,BC,C4]at he;obtain⟨rfl,rfl⟩:=he;obtain⟨v,g1,g2⟩:=Zf hs hz hp hl;exact Cy.pure sm (by simp only[execOp,Sem.run_bind,g1,Result.andThen_ok];rfl) g2
  ·split at he
   ·cases hz:DP P t with
    |none=>simp[hz]at he
    |some z=>
     cases hp:Kf P t with
     |none=>simp[hz,hp]at he
     |some na=>
      simp only[hz,hp,DJ]at he;cases hl:IC (λi=>some (i*na.2,na.2)) (z.map .sc) (parts.toList.map λp=>(p.1,A9 s p.2))with
      |none=>simp[hl]at he
      |some cs=>
       simp only[hl,Bq,BC,C4]at he;obtain⟨rfl,rfl⟩:=he;obtain⟨v,g1,g2⟩:=Zg hs hz hp hl;exact Cy.pure sm (by simp only[execOp,Sem.run_bind,g1,Result.andThen_ok];rfl) g2
   ·simp at he
 case buildSlice t len parts=>
  simp only[AZ]at he;cases hz:Dc P t with
  |none=>simp[hz]at he
  |some zb=>
   cases hzz:GQ P t with
   |none=>simp[hz,hzz]at he
   |some z=>
    simp only[hz,hzz,DJ]at he;split at he
    case isFalse=>simp at he
    rename_i hc;cases hl:Hf zb.1 (List.replicate len (z.map .sc)) (parts.toList.map λp=>(p.1,A9 s p.2))with
    |none=>simp[hl]at he
    |some rows=>
     simp only[hl,DJ]at he;obtain⟨v,w',β',g1,g2,g3,g4⟩:=Zi sm hs hz hzz hc hl he;exact⟨_,v,w',β',by simp only[execOp,Sem.run_bind,g1,Result.andThen_ok];rfl,.inl rfl,g2,g3,g4⟩
 case load t x=>
  simp only[AZ]at he;cases hz:CQ P t with
  |none=>simp[hz]at he
  |some n=>
   cases hr:rd h (A9 s x)with
   |none=>simp[hz,hr]at he
   |some cs=>
    simp only[hz,hr,DJ]at he;cases hv:JF (Cj P t) n cs with
    |none=>simp[hv]at he
    |some v=>
     simp only[hv,Bq,BC,C4]at he;obtain⟨rfl,rfl⟩:=he;obtain⟨b,o,g1,g2⟩:=Tf sm hr (rep x);obtain⟨xv,g3,g4⟩:=Tg (P:=P) hz hv g2;exact Cy.pure sm (by simp[execOp,Instr.loadAt,g1,Instr.sureAddr,g3]) g4
 case store t x y=>
  simp only[AZ]at he;cases hz:CQ P t with
  |none=>simp[hz]at he
  |some n=>
   simp only[hz,DJ]at he;split at he
   case isFalse=>simp at he
   rename_i hc;cases hw:wr h (A9 s y).cells (A9 s x)with
   |none=>simp[hw]at he
   |some h2=>
    simp only[hw,Bq,BC,C4]at he;obtain⟨rfl,rfl⟩:=he;obtain⟨w',g1,g2,g3⟩:=ZS sm hz hc.1 hc.2 hw (rep x) (rep y);exact⟨.skip,undef,w',β,by simp[execOp,g1],.inr ⟨rfl,rfl⟩,g2,g3,by simp only[AS,AA]⟩
 case nilCheck x=>
  simp only[AZ]at he;have h1:=rep x;split at he
  ·rename_i id i f hx;simp only[BC,C4]at he;obtain⟨rfl,rfl⟩:=he;rw[hx]at h1;have h2:=h1;simp only[AS,AA]at h2;obtain⟨_,b,_,hv⟩:=h2;exact Cy.pure (v:=a.eval x) sm (by simp[execOp,hv]) h1
  ·rename_i cs hx;simp only[BC,C4]at he;obtain⟨rfl,rfl⟩:=he;rw[hx]at h1;have h2:=h1;simp only[AS,AA]at h2;obtain⟨b,o,_,hv,_⟩:=h2;exact Cy.pure (v:=a.eval x) sm (by simp[execOp,hv]) h1
  ·simp at he
 case binOp op t x y t2=>
  simp only[AZ]at he;cases hv:(if kT P t=8 then Kg op (NY P t) (A9 s x) (A9 s y)else Ik op (kT P t) (Fl x||Fl y) (A9 s x) (A9 s y))with
  |none=>simp[hv]at he
  |some v=>
   simp only[hv,Bq,BC,C4]at he;obtain⟨rfl,rfl⟩:=he;obtain⟨u,g1,g2⟩: ∃ u,(do eqGuard op t x y (a.eval x) (a.eval y);binOp op t (a.eval x) (a.eval y):Sem Value).run P w= .ok u w/\AS β h w v u:=by
    split at hv
    ·exact Zz (P:=P) (w:=w) x y hv (rep x) (rep y)
    ·exact Zy (P:=P) (w:=w) x y hv (rep x) (rep y)
   refine Cy.pure (v:=u) sm ?_ g2;simp only[Sem.run_bind]at g1;simp only[execOp,Sem.run_bind,g1,Result.andThen_ok];rfl
 case unOp op t x=>
  simp only[AZ]at he;cases hv:Lb op (A9 s x)with
  |none=>simp[hv]at he
  |some v=>
   simp only[hv,Bq,BC,C4]at he;obtain⟨rfl,rfl⟩:=he;have h1:=rep x;unfold Lb at hv;split at hv
   ·rename_i b hx;simp only[BC]at hv;subst hv;rw[hx]at h1;simp only[AS,AA]at h1;exact Cy.pure (v:= .bool (!b)) sm (by simp[execOp,h1,Op.unary]) (by simp only[AS,AA])
   ·rename_i k n hx;simp only[BC]at hv;subst hv;rw[hx]at h1;simp only[AS,AA]at h1;exact Cy.pure (v:= .int k (k.wrap (0-n))) sm (by simp only[execOp,h1,Op.unary,Op.intArith];rfl) (by simp only[AS,AA])
   ·rename_i k n hx;simp only[BC]at hv;subst hv;rw[hx]at h1;simp only[AS,AA]at h1;exact Cy.pure (v:= .int k _) sm (by simp only[execOp,h1,Op.unary,Op.intBits];rfl) (by simp only[AS,AA])
   ·simp at hv
 case convert src dst' x=>
  simp only[AZ]at he;have h1:=rep x;split at he
  ·rename_i s hx;rw[hx]at h1;simp only[AS,AA]at h1;split at he
   ·rename_i hk;split at he
    ·rename_i hk2;simp only[BC,C4]at he;obtain⟨rfl,rfl⟩:=he;exact Cy.pure (v:= .string s) sm (by simp[execOp,convert,run_underlying (Nh hk),run_underlying (Nh hk2),h1]) (by simp only[AS,AA])
    ·simp at he
   ·split at he
    ·rename_i hc;obtain⟨v,w',β',g1,g2,g3,g4⟩:=Zs (P:=P) sm (Nh hc.1) hc.2.1 hc.2.2 he;exact⟨_,v,w',β',by simp only[execOp,h1,Sem.run_bind,g1,Result.andThen_ok];rfl,.inl rfl,g2,g3,g4⟩
    ·simp at he
  ·split at he
   ·rename_i hk;split at he
    ·rename_i hc;cases hv:Gj h (A9 s x)with
     |none=>simp[hv]at he
     |some rows=>
      cases hb:Im rows with
      |none=>simp[hv,hb]at he
      |some l=>
       simp only[hv,hb,DJ,Bq,BC,C4]at he;obtain⟨rfl,rfl⟩:=he;have g1:=Zv (P:=P) sm hc.1 (Nh hk) hc.2 hv hb h1;exact Cy.pure sm (by simp only[execOp,Sem.run_bind,g1,Result.andThen_ok];rfl) (by simp only[AS,AA])
    ·simp at he
   ·cases hv:MX (JE P src) (JE P dst') (A9 s x)with
    |none=>simp[hv]at he
    |some v=>
     simp only[hv,Bq,BC,C4]at he;obtain⟨rfl,rfl⟩:=he;unfold MX at hv;split at hv
     ·rename_i k1 k2 k3 n e1 e2 hx;simp at hv;subst hv;rw[hx]at h1;simp only[AS,AA]at h1;have hu1:P.underlying src=some (.int k1):=(by unfold JE at e1;split at e1<;>simp_all);have hu2:P.underlying dst'=some (.int k2):=(by unfold JE at e2;split at e2<;>simp_all);exact Cy.pure (v:= .int k2 (k2.wrap n)) sm (by simp[execOp,convert,run_underlying hu1,run_underlying hu2,h1,Conv.intToInt]) (by simp only[AS,AA])
     ·rename_i k1 k2 k3 lo hi m r e1 e2 hx;split at hv
      case isFalse=>simp at hv
      rename_i hk;obtain⟨rfl,g1,g2⟩:=hk;simp at hv;subst hv;rw[hx]at h1;simp only[AS,AA]at h1;obtain⟨i,i1,i2,i3,hi⟩:=h1;have hu1:P.underlying src=some (.int k1):=(by unfold JE at e1;split at e1<;>simp_all);have hu2:P.underlying dst'=some (.int .i64):=(by unfold JE at e2;split at e2<;>simp_all);have hw:IntKind.i64.wrap i=i:=IntWalk.i64_in _ ⟨by omega,by omega⟩;exact Cy.pure (v:= .int .i64 i) sm (by simp[execOp,convert,run_underlying hu1,run_underlying hu2,hi,Conv.intToInt,hw]) (by simp only[AS,AA];exact⟨i,i1,i2,i3,rfl⟩)
     ·simp at hv
 case makeInterface t x=>
  simp only[AZ]at he;split at he
  ·simp at he
  ·rename_i hk;split at he
   ·rename_i v hx;simp only[BC,C4]at he;obtain⟨rfl,rfl⟩:=he;have h1:=rep x;rw[hx]at h1;simp only[AS,AA]at h1;obtain⟨d,hd⟩:=Td (P:=P) (t:=t) (λe=>hk (.inr e));have hni: ∀ ms,d≠ .interface ms:=λms e=>hk (.inl (by simp[kT,hd,e]));refine Cy.pure (v:= .iface t v) sm ?_ (by simp only[AS,AA]);simp only[execOp,Instr.makeInterface,Sem.run_bind,run_underlying hd,Result.andThen_ok,h1];cases d<;>first|rfl|exact absurd rfl (hni _)
   ·simp at he
 case makeMap t rv=>
  cases rv with
  |some x=>simp[AZ]at he
  |none=>
   simp only[AZ,BC,C4]at he;obtain⟨rfl,rfl⟩:=he;obtain⟨v,w',β',g1,g2,g3,g4⟩:=Zq (P:=P) sm t;exact⟨_,v,w',β',by simp only[execOp,Ow,Sem.run_bind,g1,Result.andThen_ok];rfl,.inl rfl,g2,g3,g4⟩
 case slice t x lo hi mx=>
  cases mx with
  |none=>
   simp only[AZ]at he;cases ha:IF (A9 s) lo with
   |none=>simp[ha]at he
   |some al=>
    cases hb:IF (A9 s) hi with
    |none=>simp[ha,hb]at he
    |some bl=>
     simp only[ha,hb,DJ]at he;have q1:=Tn hs ha;have q2:=Tn hs hb;split at he
     ·cases hz:Dc P t with
      |none=>simp[hz]at he
      |some zb=>
       simp only[hz,DJ]at he;cases hq:Ma zb.1 (A9 s x) h al bl with
       |none=>simp[hq]at he
       |some q=>
        simp only[hq,Bq,BC,C4]at he;obtain⟨rfl,rfl⟩:=he;obtain⟨v,g1,g2⟩:=Zb (P:=P) sm hz q1 q2 hq (rep x);exact Cy.pure sm (by simp only[execOp,Ow,Sem.run_bind,g1,Result.andThen_ok];rfl) g2
     ·split at he
      ·rename_i hk;cases hq:Mb (A9 s x) al bl with
       |none=>simp[hq]at he
       |some q=>
        simp only[hq,Bq,BC,C4]at he;obtain⟨rfl,rfl⟩:=he;obtain⟨v,g1,g2⟩:=Zc (P:=P) hk q1 q2 hq (rep x);exact Cy.pure sm (by simp only[execOp,Ow,Sem.run_bind,g1,Result.andThen_ok];rfl) g2
      ·simp at he
  |some mx=>
   cases lo with
   |some lo=>simp[AZ]at he
   |none=>
    cases hi with
    |none=>simp[AZ]at he
    |some hi=>
     simp only[AZ]at he;cases hz:Dc P t with
     |none=>simp[hz]at he
     |some zb=>
      simp only[hz,DJ]at he;split at he
      case isFalse=>
       cases hb:Gw (A9 s hi)with
       |none=>simp[hb]at he
       |some b=>
        cases hcc:Gw (A9 s mx)with
        |none=>simp[hb,hcc]at he
        |some c=>
         simp only[hb,hcc,DJ]at he;cases hq:PA b c (A9 s x)with
         |none=>simp[hq]at he
         |some q=>
          simp only[hq,Bq,BC,C4]at he;obtain⟨rfl,rfl⟩:=he;obtain⟨k1,e1⟩:=Nc hb (rep hi);obtain⟨k2,e2⟩:=Nc hcc (rep mx);obtain⟨v,g1,g2⟩:=Ze (P:=P) (w:=w) hz e1 e2 hq (rep x);exact Cy.pure sm (by simp only[execOp,Ow,Bq,Sem.run_bind,g1,Result.andThen_ok];rfl) g2
      rename_i hc;simp only[BC,C4]at he;obtain⟨rfl,rfl⟩:=he;have zero: ∀ y,Jp (A9 s) (some y)=true-> ∃ k,a.eval y= .int k 0:=by
       intro y hy;simp only[Jp]at hy;split at hy
       ·rename_i k n hk;have hn:n=0:=LR hy;subst hn;have h1:=rep y;rw[hk]at h1;simp only[AS,AA]at h1;exact⟨k,h1⟩
       ·simp at hy
      obtain⟨k1,e1⟩:=zero hi hc.1;obtain⟨k2,e2⟩:=zero mx hc.2.1;obtain⟨v,g1,g2⟩:=Zd (P:=P) (w:=w) hz e1 e2 hc.2.2 (rep x);exact Cy.pure sm (by simp only[execOp,Ow,Bq,Sem.run_bind,g1,Result.andThen_ok];rfl) g2
 case fieldAddr t x f=>
  simp only[AZ]at he;cases ho:BT P t f with
  |none=>simp[ho]at he
  |some o=>
   simp only[ho,DJ]at he;cases hf:MZ o.1 o.2.1 (A9 s x)with
   |none=>simp[hf]at he
   |some q=>
    simp only[hf,Bq,BC,C4]at he;obtain⟨rfl,rfl⟩:=he;obtain⟨v,g1,g2⟩:=ZY (P:=P) ho hf (rep x);exact Cy.pure sm (by simp only[execOp,Sem.run_bind,g1,Result.andThen_ok];rfl) g2
 case indexAddr t x i=>
  simp only[AZ]at he;cases hn:Gw (A9 s i)with
  |none=>simp[hn]at he
  |some n=>
   simp only[hn,DJ]at he;obtain⟨k,hk⟩:=Nc hn (rep i);split at he
   ·cases hz:Dc P t with
    |none=>simp[hz]at he
    |some zb=>
     simp only[hz,DJ]at he;cases hi:Kh h zb.1 (A9 s x) n with
     |none=>simp[hi]at he
     |some q=>
      simp only[hi,Bq,BC,C4]at he;obtain⟨rfl,rfl⟩:=he;obtain⟨v,g1,g2⟩:=ZW (P:=P) (k:=k) sm hz hi (rep x);exact Cy.pure sm (by simp only[execOp,hk,Sem.run_bind,g1,Result.andThen_ok];rfl) g2
   ·cases hz:Kf P t with
    |none=>simp[hz]at he
    |some na=>
     simp only[hz,DJ]at he;cases hi:MY na.1 na.2 (A9 s x) n with
     |none=>simp[hi]at he
     |some q=>
      simp only[hi,Bq,BC,C4]at he;obtain⟨rfl,rfl⟩:=he;obtain⟨v,g1,g2⟩:=ZX (P:=P) (w:=w) (k:=k) hz hi (rep x);exact Cy.pure sm (by simp only[execOp,hk,Sem.run_bind,g1,Result.andThen_ok];rfl) g2
 case index t x i=>
  simp only[AZ]at he;cases hn:Gw (A9 s i)with
  |none=>simp[hn]at he
  |some n=>
   simp only[hn,DJ]at he;obtain⟨k,hk⟩:=Nc hn (rep i);split at he
   ·rename_i st hx;split at he
    case isFalse=>simp at he
    rename_i hc;cases hb:st[n.toNat]? with
    |none=>simp[hb]at he
    |some b=>
     simp only[hb,Bq,BC,C4]at he;obtain⟨rfl,rfl⟩:=he;have h1:=rep x;rw[hx]at h1;simp only[AS,AA]at h1;have hu:P.underlying t=some .string:=by
      have hk3:=hc.1;unfold kT at hk3;split at hk3<;>first|assumption|(simp at hk3)
     exact Cy.pure (v:= .int .u8 b.toNat) sm (by simp[execOp,hk,h1,Instr.index,asIntOf,run_underlying hu,hc.2,hb]) (by simp only[AS,AA])
   ·rename_i cs hx;cases ho:NT P t with
    |none=>simp[ho]at he
    |some na=>
     simp only[ho,DJ]at he;split at he
     case isFalse=>simp at he
     rename_i h0;cases hf:JF na.2.2 na.2.1 (cs.drop (n.toNat*na.2.1))with
     |none=>simp[hf]at he
     |some q=>
      simp only[hf,Bq,BC,C4]at he;obtain⟨rfl,rfl⟩:=he;have h1:=rep x;rw[hx]at h1;obtain⟨v,g1,g2⟩:=Za (P:=P) (k:=k) ho h0 hf h1;exact Cy.pure sm (by simp only[execOp,hk,Sem.run_bind,g1,Result.andThen_ok];rfl) g2
   ·simp at he
 case lookup t x k ok=>
  simp only[AZ]at he;cases hm:Jn P t with
  |none=>simp[hm]at he
  |some m=>
   simp only[hm,DJ]at he;split at he
   ·rename_i kv es hkv hes;split at he
    case isFalse=>simp at he
    rename_i hk;cases hf:Hg kv es with
    |none=>simp[hf]at he
    |some rr=>
     simp only[hf,Bq,BC,C4]at he;obtain⟨rfl,rfl⟩:=he;have h1:=rep k;rw[hkv]at h1;simp only[AS,AA]at h1;obtain⟨v,g1,g2⟩:=Zm (P:=P) (ok:=ok) sm hm hes hk hf (rep x);exact Cy.pure (v:=v) sm (by simp only[execOp,h1,Sem.run_bind,g1,Result.andThen_ok];rfl) g2
   ·simp at he
 case mapUpdate t x k y=>
  simp only[AZ]at he;cases hm:Jn P t with
  |none=>simp[hm]at he
  |some m=>
   simp only[hm,DJ]at he;split at he
   ·rename_i kv id hkv hid;split at he
    ·rename_i es hob;split at he
     case isFalse=>simp at he
     rename_i hk;cases hp:IE kv (A9 s y) es with
     |none=>simp[hp]at he
     |some es'=>
      simp only[hp,Bq,BC,C4]at he;obtain⟨rfl,rfl⟩:=he;have h1:=rep k;rw[hkv]at h1;simp only[AS,AA]at h1;have h2:=rep x;rw[hid]at h2;obtain⟨w',g1,g2,g3⟩:=Zp (P:=P) sm hm hob hk hp h2 (rep y);exact⟨.skip,undef,w',β,by simp[execOp,h1,g1],.inr ⟨rfl,rfl⟩,g2,g3,by simp only[AS,AA]⟩
    ·simp at he
   ·simp at he
 case typeAssert x t1 t ok=>
  cases ok with
  |false=>simp[AZ]at he
  |true=>
   simp only[AZ]at he;split at he
   ·simp at he
   ·rename_i hk;obtain⟨d,hd⟩:=Td (P:=P) (t:=t) (λe=>hk (.inr e));have hni: ∀ ms,d≠ .interface ms:=λms e=>hk (.inl (by simp[kT,hd,e]));have h1:=rep x;split at he
    ·rename_i u v hx;rw[hx]at h1;simp only[AS,AA]at h1;split at he
     ·rename_i hut;simp only[BC,C4]at he;obtain⟨rfl,rfl⟩:=he;refine Cy.pure (v:= .tuple #[v,.bool true]) sm ?_ (by simp only[AS,AA];exact⟨[v,.bool true],rfl,by simp[AT,AA]⟩);simp only[execOp,h1,Instr.typeAssert,Sem.run_bind,run_underlying hd,Result.andThen_ok,hut];cases d<;>first|exact absurd rfl (hni _)|simp
     ·rename_i hut;unfold LZ at he;cases hi:P.info? t with
      |none=>simp[hi]at he
      |some i=>
       cases hz:i.zero with
       |none=>simp[hi,hz]at he
       |some z=>
        simp[hi,hz]at he;obtain⟨rfl,rfl⟩:=he;refine Cy.pure (v:= .tuple #[z,.bool false]) sm ?_ (by simp only[AS,AA];exact⟨[z,.bool false],rfl,by simp only[AT,AA];exact⟨PG _,trivial,trivial⟩⟩);simp only[execOp,h1,Instr.typeAssert,Sem.run_bind,run_underlying hd,Result.andThen_ok];cases d<;>first|exact absurd rfl (hni _)|simp[hut,zeroValue,typeInfo,hi,hz]
    ·rename_i hx;rw[hx]at h1;simp only[AS,AA]at h1;unfold LZ at he;cases hi:P.info? t with
     |none=>simp[hi]at he
     |some i=>
      cases hz:i.zero with
      |none=>simp[hi,hz]at he
      |some z=>
       simp[hi,hz]at he;obtain⟨rfl,rfl⟩:=he;refine Cy.pure (v:= .tuple #[z,.bool false]) sm ?_ (by simp only[AS,AA];exact⟨[z,.bool false],rfl,by simp only[AT,AA];exact⟨PG _,trivial,trivial⟩⟩);simp only[execOp,h1,Instr.typeAssert,Sem.run_bind,run_underlying hd,Result.andThen_ok];cases d<;>first|exact absurd rfl (hni _)|simp[zeroValue,typeInfo,hi,hz]
    ·simp at he
 case extract x i=>
  simp only[AZ]at he;split at he
  ·rename_i vs hx;cases hv:vs[i]? with
   |none=>simp[hv]at he
   |some v=>
    simp only[hv,Bq,BC,C4]at he;obtain⟨rfl,rfl⟩:=he;have h1:=rep x;rw[hx]at h1;simp only[AS,AA]at h1;obtain⟨xs,e1,e2⟩:=h1;obtain⟨u,g1,g2⟩:=e2.get hv;exact Cy.pure (v:=u) sm (by simp[execOp,e1,Instr.extract,g1]) g2
  ·simp at he
 case call c=>
  obtain⟨callee,args,ts⟩:=c;cases callee with
  |value f=>simp[AZ]at he
  |invoke x m=>simp[AZ]at he
  |builtin b=>
   cases b
   case len=>
    obtain⟨args⟩:=args;obtain⟨ts⟩:=ts;simp only[AZ]at he;split at he
    case h_2=>simp at he
    rename_i x t;split at he
    case isFalse=>simp at he
    rename_i hk;cases hl:GF h (A9 s x)with
    |none=>simp[hl]at he
    |some n=>
     simp only[hl,Bq,BC,C4]at he;obtain⟨rfl,rfl⟩:=he;have h1:=rep x;refine Cy.pure (v:= .int .i64 (n:Int)) sm ?_ (by simp only[AS,AA]);have hlen:=aA (P:=P) sm type hk hl h1;simp only[execOp,resolve,invoke,builtin,Sem.run_bind,Sem.run_pure,Result.andThen_ok,List.map_toArray,List.map_cons,List.map_nil];rw[hlen];try rfl
   case append=>
    obtain⟨args⟩:=args;obtain⟨ts⟩:=ts;simp only[AZ]at he;split at he
    case h_2=>simp at he
    rename_i x y t u;split at he
    case isFalse=>simp at he
    rename_i htu;subst htu;cases hz:Dc P t with
    |none=>simp[hz]at he
    |some zb=>
     simp only[hz,DJ]at he;obtain⟨v,w',β',g1,g2,g3,g4⟩:=ZV (P:=P) sm type hz he (rep x) (rep y);exact⟨.value v,v,w',β',by simp only[execOp,resolve,invoke,builtin,Sem.run_bind,Sem.run_pure,Result.andThen_ok,List.map_toArray,List.map_cons,List.map_nil,g1],.inl rfl,g2,g3,g4⟩
   all_goals simp[AZ]at he
 case makeFunc fn first caps=>
  cases fn<;>(try(simp[AZ]at he;done));simp only[AZ,BC,C4]at he;obtain⟨rfl,rfl⟩:=he;have hl: ∀ l:List Operand,AT β h.next (Fz β h w) w (l.map (A9 s)) (l.map a.eval):=λl=>by
   rw[IG];refine⟨by simp,λj p v hp hv=>?_⟩;rw[List.getElem?_map]at hp hv;cases hj:l[j]? with
   |none=>simp[hj]at hp
   |some x=>
    simp[hj]at hp hv;subst hp;subst hv;exact rep x
  rename_i f;obtain⟨first⟩:=first
  obtain⟨caps⟩:=caps;refine Cy.pure (v:= .func (.func f) (first.map a.eval).toArray (caps.map a.eval).toArray) sm ?_ (by simp only[AS,AA];exact⟨_,_,rfl,hl _,hl _⟩);simp only[execOp,Instr.makeFunc,Sem.run_bind,Sem.run_pure,Result.andThen_ok,List.map_toArray]
 all_goals simp[AZ]at he
end
end Go.AM
namespace Go.AM
section
variable {P:Program}{ow:Nat->Bool}{wf:FuncId->Bool}{β:BK}{h:A0}{w:World}{s:AE}{a:Act}{n:Nat}
structure St(n:Nat)(β:BK)(s:AE)(h:A0)(a:Act)(w:World):Prop where
 Bb:B2 β h w
 rep: ∀ t,AS β h w (s t) (a.tmps.getD t undef)
 size:a.tmps.size=n
 defers:a.defers=[]
def To(n:Nat)(β:BK)(h:A0)(w:World)(K:AE->A0->Prop)(a':Act)(w':World):Prop:=
 ∃ s' h' β',K s' h'/\St n β' s' h' a' w'/\BR β h w β' h' w'
theorem To.mono{β':BK}{h':A0}{w':World}{K K':AE->A0->Prop}(e:BR β h w β' h' w')(hk: ∀ s h,K s h->K' s h){a'':Act}{w'':World}(t:To n β' h' w' K a'' w''):To n β h w K' a'' w'':=by
 obtain⟨s,h2,β2,k,st,e2⟩:=t;exact⟨s,h2,β2,hk _ _ k,st,e.trans e2⟩
theorem St.put{β':BK}{h':A0}{w':World}(st:St n β s h a w)(sm:B2 β' h' w')(e:BR β h w β' h' w'){d:Option Nat}(hd:d.all (λd=>decide (d<n))=true){r:PV}{v:Value}(hr:AS β' h' w' r v):
  St n β' (Ak s d r) h' (a.put d v) w':=by
 refine⟨sm,λt=>?_,?_,?_⟩
 ·cases d with
  |none=>simp only[Ak,Act.put];exact e.rep (st.rep t)
  |some d=>
   simp at hd;simp only[Ak,Ci,Act.put];by_cases ht:t=d
   ·subst ht;rw[AK rfl];have:t<a.tmps.size:=(by rw[st.size];exact hd);simpa[Da,this]using hr
   ·rw [A7 ht];have:=e.rep (st.rep t);simpa[Da,MQ (Ne.symm ht)]using this
 ·cases d with
  |none=>exact st.size
  |some d=>simp[Act.put,st.size]
 ·cases d with
  |none=>exact st.defers
  |some d=>simp[Act.put,st.defers]
theorem Cy.wp(st:St n β s h a w){o:Oper}{r:PV}{h':A0}(hd:o.dst.all (λd=>decide (d<n))=true)(hr:Cy P a o β h w r h'){K:Act->World->Prop}{Q:Exit->Act->World->Prop}
  (hk: ∀ a' w',To n β h w (λs' h2=>s'=Ak s o.dst r/\h2=h') a' w'->K a' w'):o.wp P a w K Q:=by
 obtain⟨nx,v,w',β',h1,h2,sm,e,hv⟩:=hr;unfold Oper.wp;rw[h1];have st':=st.put sm e hd hv;rcases h2 with rfl|⟨rfl,rfl⟩
 ·exact hk _ _ ⟨_,_,β',⟨rfl,rfl⟩,st',e⟩
 ·exact hk _ _ ⟨_,_,β',⟨rfl,rfl⟩,st',e⟩
theorem aB{ρ:Operand->PV}{op:Op}{f:FuncId}{args:List PV}(hc:callee ρ op=some (f,args)):
  ∃ fo as ts,op= .call {callee:= .value fo,args:=as,argTypes:=ts}/\((args=as.toList.map ρ/\ρ fo= .sc (.func (.func f) #[] #[]))\/ ∃ first caps,ρ fo= .fn f first caps/\args=first++(as.toList.map ρ++caps)):=by
 unfold callee at hc;split at hc
 ·rename_i fo as ts;split at hc
  ·rename_i g first captured hf
   split at hc
   ·rename_i hfc;simp only[BC,C4]at hc;obtain⟨rfl,rfl⟩:=hc;obtain⟨rfl,rfl⟩:=hfc;exact⟨fo,as,ts,rfl,.inl ⟨rfl,hf⟩⟩
   ·simp at hc
  ·rename_i g first caps hf
   simp only[BC,C4]at hc;obtain⟨rfl,rfl⟩:=hc;exact⟨fo,as,ts,rfl,.inr ⟨first,caps,hf,rfl⟩⟩
  ·simp at hc
 ·simp at hc
theorem aC(st:St n β s h a w){op:Op}{f:FuncId}{args:List PV}(hc:callee (A9 s) op=some (f,args)):
  ∃ fo as ts, ∃ xs ys:List Value,op= .call {callee:= .value fo,args:=as,argTypes:=ts}/\a.eval fo= .func (.func f) xs.toArray ys.toArray/\AT β h.next (Fz β h w) w args (xs++(as.toList.map a.eval++ys)):=by
 obtain⟨fo,as,ts,hop,hh⟩:=aB hc;have hl: ∀ l:List Operand,AT β h.next (Fz β h w) w (l.map (A9 s)) (l.map a.eval):=λl=>by
  rw[IG];refine⟨by simp,λj p v hp hv=>?_⟩;rw[List.getElem?_map]at hp hv;cases hj:l[j]? with
  |none=>simp[hj]at hp
  |some x=>
   simp[hj]at hp hv;subst hp;subst hv;exact Kj st.rep x
 have Ld: ∀ (l:List PV)(l':List Value)(m:List PV)(m':List Value),AT β h.next (Fz β h w) w l l'->AT β h.next (Fz β h w) w m m'->AT β h.next (Fz β h w) w (l++m) (l'++m'):=by
  intro l
  induction l with
  |nil=>intro l' m m' h1 h2;cases l' with|nil=>exact h2|cons=>simp[AT]at h1
  |cons p l ih=>
   intro l' m m' h1 h2;cases l' with
   |nil=>simp[AT]at h1
   |cons q l'=>
    simp only[AT]at h1;simp only[List.cons_append,AT];exact⟨h1.1,ih l' m m' h1.2 h2⟩
 have h1:=Kj st.rep fo;rcases hh with⟨rfl,hf⟩|⟨first,caps,hf,rfl⟩
 ·rw [hf]at h1;simp only[AS,AA]at h1;exact⟨fo,as,ts,[],[],hop,h1,by simpa using hl as.toList⟩
 ·rw [hf]at h1;simp only[AS,AA]at h1;obtain⟨xs,ys,g1,g2,g3⟩:=h1;exact⟨fo,as,ts,xs,ys,hop,g1,Ld _ _ _ _ g2 (Ld _ _ _ _ (hl as.toList) g3)⟩
theorem A6.wp{o:Oper}{f:FuncId}{args:List PV}(st:St n β s h a w)(hd:o.dst.all (λd=>decide (d<n))=true)(hc:callee (A9 s) o.op=some (f,args)){K':PV->A0->Prop}
  (hp:A6 P f args h K'){K:Act->World->Prop}{Q:Exit->Act->World->Prop}
  (hk: ∀ a' w',To n β h w (λs' h2=> ∃ r,K' r h2/\s'=Ak s o.dst r) a' w'->K a' w'):o.wp P a w K Q:=by
 obtain⟨fo,as,ts,xs,ys,hop,h1,hrep⟩:=aC st hc;rcases hp β w _ st.Bb hrep with⟨hb,hcl⟩|⟨v,w',hrun,r,h',β',v',hv,hK,sm,hr,e⟩
 case inr=>
  simp only[Ending.returned.injEq]at hv;subst hv;refine Cy.wp st hd ⟨.value v,v,w',β',?_,.inl rfl,sm,e,hr⟩ (λa' w2 ht=>hk _ _ (ht.mono BR.refl ?_))
  ·simp only[execOp,hop,resolve,h1,Deferred.ofValue,Sem.run_bind,Sem.run_pure,Result.andThen_ok,invoke];obtain⟨as⟩:=as;simpa[List.append_assoc]using hrun
  ·rintro s' h2 ⟨rfl,rfl⟩;exact⟨r,hK,rfl⟩
 unfold Ab at hb;cases hfn:P.funcs[f]? with
 |none=>simp[hfn]at hb
 |some fn=>
  simp[hfn]at hb;have hbody:fn.body.isNone=false:=by cases hbb:fn.body<;>simp[hbb]at hb⊢
  have hrun:(execOp a.eval o).run P w= .ok (.enter f (xs++(as.toList.map a.eval++ys)).toArray) w:=by
   simp only[execOp,hop,resolve,h1,Deferred.ofValue,Sem.run_bind,Sem.run_pure,Result.andThen_ok,invoke,callFunc,run_program,hfn];obtain⟨as⟩:=as;simp[hbody,hb.1]
  unfold Oper.wp;rw[hrun];simp only[Oper.upon];refine Calls.mono hcl (λe w' hq=>?_);obtain⟨r,h',β',v,rfl,hK,sm,hr,e⟩:=hq;exact hk _ _ ⟨_,h',β',⟨r,hK,rfl⟩,st.put sm e hd hr,e⟩
theorem UC{o:Oper}{K':AE->A0->Prop}(st:St n β s h a w)(hd:o.dst.all (λd=>decide (d<n))=true)(ho:CY P ow o K' s h){K:Act->World->Prop}{Q:Exit->Act->World->Prop}
  (hk: ∀ a' w',To n β h w K' a' w'->K a' w'):o.wp P a w K Q:=by
 unfold CY at ho;split at ho
 ·rename_i f args hc;refine A6.wp st hd hc ho (λa' w' ht=>hk a' w' (ht.mono BR.refl ?_));rintro s' h' ⟨r,hr,rfl⟩;exact hr
 ·split at ho
  ·rename_i r h' he;refine Cy.wp st hd (UB st.Bb st.rep o he) (λa' w' ht=>hk a' w' (ht.mono BR.refl ?_));rintro s' h2 ⟨rfl,rfl⟩;exact ho
  ·exact ho.elim
theorem aD(st:St n β s h a w){t:Nat}{v:Value}(hv:s t= .sc v)(hne:v≠undef):a.tmps[t]? =some v:=by
 have h1:=st.rep t;rw[hv]at h1;simp only[AS,AA]at h1;cases ht:a.tmps[t]? with
 |none=>rw[Da,ht]at h1;simp at h1;exact absurd h1.symm hne
 |some u=>rw[Da,ht]at h1;simp at h1;rw[h1]
theorem PO(st:St n β s h a w){ops:List Oper}{o:Oper}{b:Bool}(hw:D4 ops s o=some b):Region.wanted o (yielded ops.toArray a.tmps)=b:=by
 unfold D4 at hw;unfold Region.wanted;cases hg:o.guard with
 |none=>simp[hg]at hw;simp[hw]
 |some gw=>
  obtain⟨g,want⟩:=gw;simp only[hg]at hw;cases ht:(ops[g]?).bind (·.dst)with
  |none=>simp[ht]at hw
  |some t=>
   simp only[ht]at hw;have hy:yielded ops.toArray a.tmps g=match a.tmps[t]? with|some (.bool b)=>some b|_=>none:=by
    simp only[yielded,List.getElem?_toArray,ht,DJ];rfl
   simp only[hy];split at hw
   ·rename_i b' hs;simp at hw;rw[aD st hs (by simp[undef])];subst hw;cases b'<;>cases want<;>rfl
   ·rename_i vs hs;simp at hw;subst hw;have h1:=st.rep t;rw[hs]at h1;simp only[AS,AA]at h1;cases hte:a.tmps[t]? with
    |none=>rfl
    |some u=>rw[Da,hte]at h1;simp at h1;subst h1;rfl
   ·simp at hw
theorem St.undef(st:St n β s h a w){d:Option Nat}(hd:d.all (λd=>decide (d<n))=true):St n β (Ak s d (.sc Go.undef)) h (a.put d Go.undef) w:=
 st.put st.Bb BR.refl hd (by simp only[AS,AA])
theorem RB{ops:List Oper}{Q:Exit->Act->World->Prop}: ∀ (l:List Oper){K':AE->A0->Prop}{β:BK}{s:AE}{h:A0}{a:Act}{w:World},St n β s h a w->Et P ow n ops l K' s h->
  (∀ a' w',To n β h w K' a' w'->Q .normal a' w')->wpList P ops.toArray Q l a w
 |[],K',β,s,h,a,w,st,hl,hk=>hk a w ⟨s,h,β,hl,st,BR.refl⟩
 |o::rest,K',β,s,h,a,w,st,hl,hk=>by
  simp only[Et]at hl;obtain⟨hd,hl⟩:=hl;split at hl
  ·exact hl.elim
  ·rename_i b hb;have hwd:=PO st hb;unfold wpList;rw[hwd];cases b with
   |true=>
    simp only[AO]at hl⊢;refine .inl (UC st hd hl (λa' w' ht=>?_));obtain⟨s',h',β',hk',st',e⟩:=ht;exact RB rest st' hk' (λa'' w'' ht'=>hk a'' w'' (ht'.mono e (λ_ _ x=>x)))
   |false=>
    simp only[BQ,AP]at hl⊢;exact RB rest (st.undef hd) hl hk
end
end Go.AM
namespace Go.AM
section
variable {P:Program}{ow:Nat->Bool}{wf:FuncId->Bool}{n:Nat}
theorem UD{w:Bool}{op:Op}{s s':AE}{h:A0}(hs: ∀ t,.tmp t∈op.operands->s t=s' t):AZ P w op (A9 s) h=AZ P w op (A9 s') h:=by
  have hp: ∀ x∈op.operands,A9 s x=A9 s' x:=by
    intro x hx;cases x<;>first|rfl|exact hs _ hx
  have pairs: ∀ ps:Array (Nat × Operand),(∀ x∈(ps.toList.map (·.2)),A9 s x=A9 s' x)->(ps.toList.map λp=>(p.1,A9 s p.2))=(ps.toList.map λp=>(p.1,A9 s' p.2)):=λps hh=>
    List.map_congr_left λp hm=>by rw[hh p.2 (List.mem_map.2 ⟨p,hm,rfl⟩)]
  have opt: ∀ x:Option Operand,(∀ y,x=some y->A9 s y=A9 s' y)->IF (A9 s) x=IF (A9 s') x:=by
    intro x hh;cases x with
    |none=>rfl
    |some y=>simp only[IF,hh y rfl]
  have optz: ∀ x:Option Operand,(∀ y,x=some y->A9 s y=A9 s' y)->Jp (A9 s) x=Jp (A9 s') x:=by
    intro x hh;cases x with
    |none=>rfl
    |some y=>simp only[Jp,hh y rfl]
  cases op
  case build t ps=>simp only[AZ,pairs ps λx hx=>hp x (by simpa[Op.operands]using hx)]
  case buildSlice t l ps=>simp only[AZ,pairs ps λx hx=>hp x (by simpa[Op.operands]using hx)]
  case slice t x lo hi mx=>
    have e0:A9 s x=A9 s' x:=hp x (by simp[Op.operands]);have e1: ∀ y,lo=some y->A9 s y=A9 s' y:=λy hy=>hp y (by simp[Op.operands,hy]);have e2: ∀ y,hi=some y->A9 s y=A9 s' y:=λy hy=>hp y (by simp[Op.operands,hy]);have e3: ∀ y,mx=some y->A9 s y=A9 s' y:=λy hy=>hp y (by simp[Op.operands,hy]);cases mx with
    |none=>simp only[AZ,e0,opt lo e1,opt hi e2]
    |some m=>
      cases lo with
      |some l=>rfl
      |none=>
        cases hi with
        |none=>rfl
        |some hh=>simp only[AZ,e0,optz _ e2,optz _ e3,e2 hh rfl,e3 m rfl]
  case makeMap t r=>cases r<;>rfl
  case typeAssert x t1 t2 ok=>
    have e0:A9 s x=A9 s' x:=hp x (by simp[Op.operands]);cases ok<;>simp only[AZ,e0]
  case call c=>
    obtain⟨cl,⟨args⟩,⟨ts⟩⟩:=c;cases cl with
    |value f=>rfl
    |invoke f m=>rfl
    |builtin b=>
      have ha: ∀ x∈args,A9 s x=A9 s' x:=λx hx=>hp x (by simp[Op.operands,Call.operands,hx]);cases b<;>try rfl
      · match args,ts,ha with
        |[x,y],[t,u],ha=>simp only[AZ,ha x (by simp),ha y (by simp)]
        |[],_,_=>rfl
        |[_],_,_=>rfl
        |_::_::_::_,_,_=>rfl
        |[_,_],[],_=>rfl
        |[_,_],[_],_=>rfl
        |[_,_],_::_::_::_,_=>rfl
      · match args,ts,ha with
        |[x],[t],ha=>simp only[AZ,ha x (by simp)]
        |[],_,_=>rfl
        |_::_::_,_,_=>rfl
        |[_],[],_=>rfl
        |[_],_::_::_,_=>rfl
      all_goals
        match args,ha with
        |[x,y],ha=>simp only[AZ,ha x (by simp),ha y (by simp)]
        |[],_=>rfl
        |[_],_=>rfl
        |_::_::_::_,_=>rfl
  case makeFunc fn first caps=>
    have e1:first.toList.map (A9 s)=first.toList.map (A9 s'):=List.map_congr_left λx hx=>hp x (by simp only[Op.operands,Yq];exact .inl (I9.1 hx))
    have e2:caps.toList.map (A9 s)=caps.toList.map (A9 s'):=List.map_congr_left λx hx=>hp x (by simp only[Op.operands,Yq];exact .inr (I9.1 hx));cases fn<;>first|rfl|simp only[AZ,e1,e2]
  all_goals first
    |rfl
    | (simp only [Op.operands] at hp
       simp only[AZ]
       simp_all)
theorem aE{op:Op}{s s':AE}(hs: ∀ t,.tmp t∈op.operands->s t=s' t):callee (A9 s) op=callee (A9 s') op:=by
 cases op<;>try rfl
 case call c=>
  obtain⟨cl,as,ts⟩:=c;cases cl with
  |value f=>
   have hf:A9 s f=A9 s' f:=(by cases f<;>first|rfl|exact hs _ (by simp[Op.operands,Call.operands]));have ha:as.toList.map (A9 s)=as.toList.map (A9 s'):=List.map_congr_left λx hx=>by
    cases x<;>first|rfl|exact hs _ (by simp only[Op.operands,Call.operands,Yq];right;exact I9.1 hx)
   simp only[callee,hf,ha]
  |invoke f m=>rfl
  |builtin b=>rfl
theorem Lg{o:Oper}{s s':AE}{h h':A0}{v:PV}(hs: ∀ t,.tmp t∈o.op.operands->s t=s' t)(hd:Ap P ow o (A9 s) h v h'):Ap P ow o (A9 s') h v h':=by
 unfold Ap at hd⊢;rw[← aE hs, ← UD hs];cases hc:callee (A9 s) o.op with
 |none=>rw[hc]at hd;exact hd
 |some fa=>
  obtain⟨f,args⟩:=fa;rw[hc]at hd;exact hd
theorem RC(f:Array Nat->Oper->Array Nat)(g:(Nat->Nat)->Oper->Nat)(hf: ∀ acc o,f acc o=acc.push (g (λm=>acc.getD m 0) o)): ∀ (l:List Oper)(acc:Array Nat),
  (l.foldl f acc).size=acc.size+l.length/\(∀ j,j<acc.size->(l.foldl f acc).getD j 0=acc.getD j 0)/\
  ∀ (j:Nat)(o:Oper),l[j]? =some o->(l.foldl f acc).getD (acc.size+j) 0=g (λm=>if m<acc.size+j then(l.foldl f acc).getD m 0 else 0) o
 |[],acc=>by simp
 |o::l,acc=>by
  obtain⟨h1,h2,h3⟩:=RC f g hf l (f acc o);have hsz:(f acc o).size=acc.size+1:=by rw[hf];simp
  have hlow: ∀ j,j<acc.size->(l.foldl f (f acc o)).getD j 0=acc.getD j 0:=by
   intro j hj;rw[h2 j (by omega),hf];rw[Da,Da,Array.getElem?_push_lt hj,NL hj]
  refine⟨by simp only[List.foldl_cons,h1,hsz,List.length_cons];omega,λj hj=>by simpa only[List.foldl_cons]using hlow j hj,λj q hq=>?_⟩;cases j with
  |zero=>
   simp at hq;subst hq;simp only[List.foldl_cons,GC];rw[h2 _ (by omega),hf];have e1:(acc.push (g (λm=>acc.getD m 0) o)).getD acc.size 0=g (λm=>acc.getD m 0) o:=(by simp[Da]);rw[e1];congr 1;funext m;by_cases hm:m<acc.size
   ·rw [AK hm, ← hlow m hm,hf]
   ·rw [A7 hm,Da,Array.getElem?_eq_none (by omega)];try rfl
  |succ j=>
   have:=h3 j q (by simpa using hq);rw[hsz]at this;simp only[List.foldl_cons];rw[show acc.size+(j+1)=acc.size+1+j by omega];exact this
theorem UE(b:Nat->Nat): ∀ (l:List Edge)(s i:Nat),(l.foldl (λs e=>if Region.binds .any e then s|||2 ^ e.on|||b e.on else s) s).testBit i=true->
  s.testBit i=true\/ ∃ e∈l,Region.binds .any e=true/\(i=e.on\/(b e.on).testBit i=true)
 |[],s,i,h=> .inl h
 |e::l,s,i,h=>by
  simp only[List.foldl_cons]at h;rcases UE b l _ i h with h1|⟨e',h1,h2,h3⟩
  ·split at h1
   ·rename_i hb;simp only[TN,EH]at h1;rcases h1 with(h1|h1)|h1
    ·exact .inl h1
    ·refine .inr ⟨e,by simp,hb,.inl ?_⟩;rw[Nat.testBit_two_pow]at h1;exact(LR h1).symm
    ·exact .inr ⟨e,by simp,hb,.inr h1⟩
   ·exact .inl h1
  ·exact .inr ⟨e',by simp[h1],h2,h3⟩
theorem Mi{ops:List Oper}{i j:Nat}{o:Oper}(ho:ops[j]? =some o)(hp:pre ops i j=true):
  ∃ e∈o.after.toList,Region.binds .any e=true/\(i=e.on\/(e.on<j/\pre ops i e.on=true)):=by
 unfold pre at hp⊢;have hb:Region.before ops.toArray=ops.foldl (λacc o=>acc.push (o.after.foldl (λs e=>if Region.binds .any e then s|||2 ^ e.on|||acc.getD e.on 0 else s) 0)) #[]:=by
  unfold Region.before;rw[← Ov]
 have h3:=(RC (λacc o=>acc.push (o.after.foldl (λs e=>if Region.binds .any e then s|||2 ^ e.on|||acc.getD e.on 0 else s) 0))
  (λb o=>o.after.toList.foldl (λs e=>if Region.binds .any e then s|||2 ^ e.on|||b e.on else s) 0) (λacc o=>by rw[← Ov]) ops #[]).2.2 j o ho
 simp only[List.size_toArray,List.length_nil,C7]at h3;rw[← hb]at h3;rw[h3]at hp;rcases UE (λm=>if m<j then(Region.before ops.toArray).getD m 0 else 0) _ _ _ hp with h1|⟨e,h1,h2,h4⟩
 ·simp at h1
 ·refine ⟨e,h1,h2,h4.imp id (λh5=>?_)⟩;by_cases hj:e.on<j
  ·rw [AK hj]at h5;exact⟨hj,h5⟩
  ·rw [A7 hj]at h5;simp at h5
structure Jv(ow:Nat->Bool)(wf:FuncId->Bool)(ops:List Oper):Prop where
 back: ∀ (j:Nat)(o:Oper),ops[j]? =some o-> ∀ e∈o.after.toList,Region.binds .any e=true->e.on<j
 Z4: ∀ (j:Nat)(o:Oper),ops[j]? =some o-> ∀ cs b,o.op≠ .select cs b
 slot: ∀ (i j:Nat)(q o:Oper),i≠j->ops[i]? =some q->ops[j]? =some o-> ∀ d,q.dst=some d->d∈F4 ops o->pre ops i j=true\/pre ops j i=true
 ww: ∀ (i j:Nat)(q o:Oper),i≠j->ops[i]? =some q->ops[j]? =some o->BL ow wf q=true->BL ow wf o=true->pre ops i j=true\/pre ops j i=true
theorem Jv.of{ops:List Oper}(h:Jr ow wf ops=true):Jv ow wf ops:=by
 unfold Jr at h;rw[List.all_eq_true]at h;have hm: ∀ (j:Nat)(o:Oper),ops[j]? =some o->_:=λj o ho=>h (o,j) (List.mem_zipIdx_iff_getElem?.2 ho);refine⟨λj o ho e he hb=>?_,λj o ho cs b hsel=>?_,λi j q o hij hq ho d hd hl=>?_,λi j q o hij hq ho h1 h2=>?_⟩
 ·have h0:=hm j o ho;simp only[AV,List.all_eq_true]at h0;have:=h0.1.1 e he;simpa[hb]using this
 ·have h0:=hm j o ho;simp only[AV]at h0;have:=h0.1.2;rw[hsel]at this;simp at this
 ·have h0:=hm j o ho;simp only[AV,List.all_eq_true]at h0;have:=h0.2 (q,i) (List.mem_zipIdx_iff_getElem?.2 hq);simp only[EH,AV,F0,hd,EI]at this;rcases this with h1|⟨h1,_⟩
  ·exact absurd h1 hij
  ·rcases h1 with(h1|h1)|h1
   ·rw [List.contains_iff_mem.2 hl]at h1;simp at h1
   ·exact .inl h1
   ·exact .inr h1
 ·have h0:=hm j o ho;simp only[AV,List.all_eq_true]at h0;have:=h0.2 (q,i) (List.mem_zipIdx_iff_getElem?.2 hq);simp only[EH,AV,F0,h1,h2,EI,LS,Bool.true_eq_false,false_or]at this;rcases this with h3|⟨_,h3⟩
  ·exact absurd h3 hij
  ·exact h3
theorem Mj{ops:List Oper}(hd:Jv ow wf ops): ∀ (j i:Nat),j<ops.length->pre ops i j=true->i<j:=by
 intro j
 induction j using Nat.strongRecOn with
 |_ j ih=>
  intro i hj hp;obtain⟨e,h1,h2,h3⟩:=Mi (List.getElem?_eq_getElem hj) hp;have hlt:=hd.back j _ (List.getElem?_eq_getElem hj) e h1 h2;rcases h3 with rfl|⟨h4,h5⟩
  ·exact hlt
  ·exact Yr (ih e.on h4 i (by omega) h5) h4
def IH(ops:List Oper)(S:Nat->Bool):Prop:= ∀ (j:Nat)(o:Oper),ops[j]? =some o->S j=true-> ∀ e∈o.after.toList,Region.binds .any e=true->S e.on=true
theorem IH.pre{ops:List Oper}{S:Nat->Bool}(hc:IH ops S): ∀ (j i:Nat),j<ops.length->S j=true->pre ops i j=true->S i=true:=by
 intro j
 induction j using Nat.strongRecOn with
 |_ j ih=>
  intro i hj hs hp;obtain⟨e,h1,h2,h3⟩:=Mi (List.getElem?_eq_getElem hj) hp;have hse:=hc j _ (List.getElem?_eq_getElem hj) hs e h1 h2;rcases h3 with rfl|⟨h4,h5⟩
  ·exact hse
  ·exact ih e.on h4 i (by omega) hse h5
end
end Go.AM
namespace Go.AM
section
variable {P:Program}{ow:Nat->Bool}{wf:FuncId->Bool}{n:Nat}{ops:List Oper}
def Wd(ow:Nat->Bool)(wf:FuncId->Bool)(ops:List Oper)(sk:Nat->AE)(j:Nat):Prop:= ∃ o,ops[j]? =some o/\BL ow wf o=true/\D4 ops (sk j) o=some true
def Nd(ow:Nat->Bool)(wf:FuncId->Bool)(ops:List Oper)(sk:Nat->AE)(j:Nat)(o:Oper):Prop:=ops[j]? =some o/\BL ow wf o=false/\D4 ops (sk j) o=some true
structure Tr(P:Program)(ow:Nat->Bool)(wf:FuncId->Bool)(n:Nat)(ops:List Oper)(k:Nat)(sk:Nat->AE)(hk:Nat->A0)(vk:Nat->PV):Prop where
 step: ∀ (j:Nat)(o:Oper),k<=j->ops[j]? =some o->o.dst.all (λd=>decide (d<n))=true/\ ∃ b,D4 ops (sk j) o=some b/\
  (b=false->sk (j+1)=Ak (sk j) o.dst (.sc undef)/\hk (j+1)=hk j)/\
  (b=true->sk (j+1)=Ak (sk j) o.dst (vk j)/\Ap P ow o (A9 (sk j)) (hk j) (vk j) (hk (j+1))/\(BL ow wf o=false->hk (j+1)=hk j))
 apart: ∀ (i j:Nat)(o:Oper),k<=i->k<=j->Nd ow wf ops sk i o->Wd ow wf ops sk j->
  (i<j->pre ops i j=true\/Ap P ow o (A9 (sk i)) (hk (j+1)) (vk i) (hk (j+1)))/\(j<i->pre ops j i=true\/Ap P ow o (A9 (sk i)) (hk j) (vk i) (hk j))
def C8{α:Type}(k:Nat)(x:α)(f:Nat->α):Nat->α:=λj=>if j=k then x else f j
theorem DS{α:Type}{k:Nat}{x:α}{f:Nat->α}:C8 k x f k=x:=AK rfl
theorem Fo{α:Type}{k j:Nat}{x:α}{f:Nat->α}(h:j≠k):C8 k x f j=f j:=A7 h
theorem PQ{K:AE->A0->Prop}: ∀ (l:List Oper)(k:Nat)(past:List (Nat × (A0->Prop)))(hist:List (Nat × A0))(s:AE)(h:A0),l=ops.drop k->EU P ow wf n ops k l past hist K s h->
  ∃ sk hk vk,sk k=s/\hk k=h/\(K (sk (k+l.length)) (hk (k+l.length)))/\Tr P ow wf n ops k sk hk vk/\
   (∀ x∈past, ∀ j,k<=j->Wd ow wf ops sk j->pre ops x.1 j=true\/x.2 (hk (j+1)))/\
   (∀ x∈hist, ∀ i o,k<=i->Nd ow wf ops sk i o->pre ops x.1 i=true\/Ap P ow o (A9 (sk i)) x.2 (vk i) x.2)
 |[],k,past,hist,s,h,hl,hd=>by
  simp only[EU]at hd;have hk:ops.length<=k:=by
   have:=LQ List.length hl;simp at this;omega
  have hno: ∀ (j:Nat)(o:Oper),k<=j->ops[j]? =some o->False:=λj o hj ho=>by
   have:=(List.getElem?_eq_some_iff.1 ho).1;omega
  refine⟨λ_=>s,λ_=>h,λ_=> .emp,rfl,rfl,hd,⟨λj o hj ho=>(hno j o hj ho).elim,λi j o hi _ hn _=>(hno i o hi hn.1).elim⟩,λx _ j hj hw=>?_,λx _ i o hi hn=>(hno i o hi hn.1).elim⟩;obtain⟨o,ho,_⟩:=hw;exact(hno j o hj ho).elim
 |o::rest,k,past,hist,s,h,hl,hd=>by
  have hok:ops[k]? =some o:=by
   have:(ops.drop k)[0]? =some o:=(by rw[← hl];try rfl);simpa using this
  have hrest:rest=ops.drop (k+1):=by
   have:=LQ List.tail hl;simpa using this
  simp only[EU]at hd;obtain⟨hdst,hd⟩:=hd;have CS: ∀ {sk':Nat->AE}{j:Nat},k+1<=j->(C8 k s sk') j=sk' j:=λhj=>Fo (by omega);have exth: ∀ {hk':Nat->A0}{j:Nat},k+1<=j->(C8 k h hk') j=hk' j:=λhj=>Fo (by omega);split at hd
  ·exact hd.elim
  ·rename_i b hb;cases b with
   |false=>
    simp only[BQ,AP]at hd;obtain⟨sk',hk',vk',e1,e2,e3,tr,hp,hh⟩:=PQ rest (k+1) past hist _ _ hrest hd;have hnW:¬ Wd ow wf ops (C8 k s sk') k:=by
     rintro⟨q,hq,_,hw⟩;rw[hok]at hq;simp at hq;subst hq;rw[DS,hb]at hw;simp at hw
    have hnN: ∀ q,¬ Nd ow wf ops (C8 k s sk') k q:=by
     rintro q ⟨hq,_,hw⟩;rw[hok]at hq;simp at hq;subst hq;rw[DS,hb]at hw;simp at hw
    have wdE: ∀ j,k+1<=j->Wd ow wf ops (C8 k s sk') j->Wd ow wf ops sk' j:=by
     intro j hj hw;unfold Wd at hw⊢;rw[CS hj]at hw;exact hw
    have ndE: ∀ j q,k+1<=j->Nd ow wf ops (C8 k s sk') j q->Nd ow wf ops sk' j q:=by
     intro j q hj hw;unfold Nd at hw⊢;rw[CS hj]at hw;exact hw
    have gt: ∀ j,k<=j->Wd ow wf ops (C8 k s sk') j->k+1<=j:=by
     intro j hj hw;rcases Cr k j with h1|h1
     ·exact h1
     ·have:j=k:=(by omega);subst this;exact(hnW hw).elim
    have gtn: ∀ j q,k<=j->Nd ow wf ops (C8 k s sk') j q->k+1<=j:=by
     intro j q hj hw;rcases Cr k j with h1|h1
     ·exact h1
     ·have:j=k:=(by omega);subst this;exact(hnN q hw).elim
    refine⟨C8 k s sk',C8 k h hk',vk',DS,DS,?_,⟨λj q hj hq=>?_,λi j q hi hj hn hw=>?_⟩,λx hx j hj hw=>?_,λx hx i q hi hn=>?_⟩
    ·rw [Fo (by simp),Fo (by simp)];rw[show k+(o::rest).length=k+1+rest.length by simp;omega];exact e3
    ·rcases Cr k j with h1|h1
     ·obtain ⟨t1,t2⟩:=tr.step j q h1 hq;refine⟨t1,?_⟩;rw[CS (sk':=sk') h1,CS (sk':=sk') (by omega:k+1<=j+1),exth (hk':=hk') h1,exth (hk':=hk') (by omega:k+1<=j+1)];exact t2
     ·have hjk:j=k:=(by omega);subst hjk;rw[hok]at hq;simp at hq;subst hq;refine⟨hdst,false,by rw[DS];exact hb,λ_=>?_,λhc=>by cases hc⟩;rw[CS (sk':=sk') (AG _),exth (hk':=hk') (AG _)];simp[e1,e2,DS]
    ·have hi':=gtn i q hi hn;have hj':=gt j hj hw;have:=tr.apart i j q hi' hj' (ndE i q hi' hn) (wdE j hj' hw);rw[CS (sk':=sk') hi',exth (hk':=hk') (by omega:k+1<=j+1),exth (hk':=hk') hj'];exact this
    ·have hj':=gt j hj hw;have:=hp x hx j hj' (wdE j hj' hw);rw[exth (hk':=hk') (by omega:k+1<=j+1)];exact this
    ·have hi':=gtn i q hi hn;have:=hh x hx i q hi' (ndE i q hi' hn);rw[CS (sk':=sk') hi'];exact this
   |true=>
    simp only[AO]at hd;split at hd
    ·rename_i hw;obtain⟨v,h',hdo,hpast,hd⟩:=hd;obtain⟨sk',hk',vk',e1,e2,e3,tr,hp,hh⟩:=PQ rest (k+1) past ((k,h)::hist) _ _ hrest hd;have hnN: ∀ q,¬ Nd ow wf ops (C8 k s sk') k q:=by
      rintro q ⟨hq,hq2,_⟩;rw[hok]at hq;simp at hq;subst hq;rw[hw]at hq2;simp at hq2
     have wdE: ∀ j,k+1<=j->Wd ow wf ops (C8 k s sk') j->Wd ow wf ops sk' j:=by
      intro j hj hw;unfold Wd at hw⊢;rw[CS hj]at hw;exact hw
     have ndE: ∀ j q,k+1<=j->Nd ow wf ops (C8 k s sk') j q->Nd ow wf ops sk' j q:=by
      intro j q hj hw;unfold Nd at hw⊢;rw[CS hj]at hw;exact hw
     have gtn: ∀ j q,k<=j->Nd ow wf ops (C8 k s sk') j q->k+1<=j:=by
      intro j q hj hw;rcases Cr k j with h1|h1
      ·exact h1
      ·have:j=k:=(by omega);subst this;exact(hnN q hw).elim
     have vkE: ∀ {j},k+1<=j->(C8 k v vk') j=vk' j:=λhj=>Fo (by omega);refine⟨C8 k s sk',C8 k h hk',C8 k v vk',DS,DS,?_,⟨λj q hj hq=>?_,λi j q hi hj hn hwd=>?_⟩,λx hx j hj hwd=>?_,λx hx i q hi hn=>?_⟩
     ·rw [Fo (by simp),Fo (by simp)];rw[show k+(o::rest).length=k+1+rest.length by simp;omega];exact e3
     ·rcases Cr k j with h1|h1
      ·obtain ⟨t1,t2⟩:=tr.step j q h1 hq;refine⟨t1,?_⟩;rw[CS (sk':=sk') h1,CS (sk':=sk') (by omega:k+1<=j+1),exth (hk':=hk') h1,exth (hk':=hk') (by omega:k+1<=j+1),vkE h1];exact t2
      ·have hjk:j=k:=(by omega);subst hjk;rw[hok]at hq;simp at hq;subst hq;refine⟨hdst,true,by rw[DS];exact hb,(λhc=>by cases hc),λ_=>?_⟩;rw[CS (sk':=sk') (AG _),exth (hk':=hk') (AG _)];simp only[DS,e1,e2];exact⟨trivial,hdo,λhc=>by rw[hw]at hc;simp at hc⟩
     ·have hi':=gtn i q hi hn;rw[CS (sk':=sk') hi',exth (hk':=hk') (by omega:k+1<=j+1),vkE hi'];rcases Cr k j with h1|h1
      ·have:=tr.apart i j q hi' h1 (ndE i q hi' hn) (wdE j h1 hwd);rw[exth (hk':=hk') h1];exact this
      ·have hjk:j=k:=(by omega);subst hjk;refine⟨λhlt=>by omega,λ_=>?_⟩;rw[DS];exact hh (j,h) (by simp) i q hi' (ndE i q hi' hn)
     ·rcases Cr k j with h1|h1
      ·rw [exth (hk':=hk') (by omega:k+1<=j+1)];exact hp x hx j h1 (wdE j h1 hwd)
      ·have hjk:j=k:=(by omega);subst hjk;rw[exth (hk':=hk') (AG _),e2];exact hpast x hx
     ·have hi':=gtn i q hi hn;rw[CS (sk':=sk') hi',vkE hi'];exact hh x (by simp[hx]) i q hi' (ndE i q hi' hn)
    ·rename_i hw;obtain⟨v,hdo,hhist,hd⟩:=hd;have hw':BL ow wf o=false:=(by simpa using hw);obtain⟨sk',hk',vk',e1,e2,e3,tr,hp,hh⟩:=PQ rest (k+1) ((k,λh'=>Ap P ow o (A9 s) h' v h')::past) hist _ _ hrest hd;have hnW:¬ Wd ow wf ops (C8 k s sk') k:=by
      rintro⟨q,hq,hq2,_⟩;rw[hok]at hq;simp at hq;subst hq;exact hw hq2
     have wdE: ∀ j,k+1<=j->Wd ow wf ops (C8 k s sk') j->Wd ow wf ops sk' j:=by
      intro j hj hw;unfold Wd at hw⊢;rw[CS hj]at hw;exact hw
     have ndE: ∀ j q,k+1<=j->Nd ow wf ops (C8 k s sk') j q->Nd ow wf ops sk' j q:=by
      intro j q hj hw;unfold Nd at hw⊢;rw[CS hj]at hw;exact hw
     have gt: ∀ j,k<=j->Wd ow wf ops (C8 k s sk') j->k+1<=j:=by
      intro j hj hw;rcases Cr k j with h1|h1
      ·exact h1
      ·have:j=k:=(by omega);subst this;exact(hnW hw).elim
     have vkE: ∀ {j},k+1<=j->(C8 k v vk') j=vk' j:=λhj=>Fo (by omega);refine⟨C8 k s sk',C8 k h hk',C8 k v vk',DS,DS,?_,⟨λj q hj hq=>?_,λi j q hi hj hn hwd=>?_⟩,λx hx j hj hwd=>?_,λx hx i q hi hn=>?_⟩
     ·rw [Fo (by simp),Fo (by simp)];rw[show k+(o::rest).length=k+1+rest.length by simp;omega];exact e3
     ·rcases Cr k j with h1|h1
      ·obtain ⟨t1,t2⟩:=tr.step j q h1 hq;refine⟨t1,?_⟩;rw[CS (sk':=sk') h1,CS (sk':=sk') (by omega:k+1<=j+1),exth (hk':=hk') h1,exth (hk':=hk') (by omega:k+1<=j+1),vkE h1];exact t2
      ·have hjk:j=k:=(by omega);subst hjk;rw[hok]at hq;simp at hq;subst hq;refine⟨hdst,true,by rw[DS];exact hb,(λhc=>by cases hc),λ_=>?_⟩;rw[CS (sk':=sk') (AG _),exth (hk':=hk') (AG _)];simp only[DS,e1,e2];exact⟨trivial,hdo,λ_=>trivial⟩
     ·have hj':=gt j hj hwd;rw[exth (hk':=hk') (by omega:k+1<=j+1),exth (hk':=hk') hj'];rcases Cr k i with h1|h1
      ·rw [CS (sk':=sk') h1,vkE h1];exact tr.apart i j q h1 hj' (ndE i q h1 hn) (wdE j hj' hwd)
      ·have hik:i=k:=(by omega);subst hik;have hq:=hn.1;rw[hok]at hq;simp at hq;subst hq;refine⟨λ_=>?_,λhlt=>by omega⟩;simp only[DS];exact hp _ (List.mem_cons_self ..) j hj' (wdE j hj' hwd)
     ·have hj':=gt j hj hwd;rw[exth (hk':=hk') (by omega:k+1<=j+1)];exact hp x (by simp[hx]) j hj' (wdE j hj' hwd)
     ·rcases Cr k i with h1|h1
      ·rw [CS (sk':=sk') h1,vkE h1];exact hh x hx i q h1 (ndE i q h1 hn)
      ·have hik:i=k:=(by omega);subst hik;have hq:=hn.1;rw[hok]at hq;simp at hq;subst hq;simp only[DS];exact hhist x hx
end
end Go.AM
namespace Go.AM
section
variable {P:Program}{ow:Nat->Bool}{wf:FuncId->Bool}{n:Nat}{ops:List Oper}
def EB(p:Nat->Bool):Nat->Nat
 |0=>0
 |n+1=>if p n then n+1 else EB p n
theorem GH(p:Nat->Bool): ∀ n,EB p n<=n/\(EB p n=0\/ ∃ m,EB p n=m+1/\p m=true)/\ ∀ j,EB p n<=j->j<n->p j=false
 |0=>by simp[EB]
 |n+1=>by
  obtain⟨h1,h2,h3⟩:=GH p n;unfold EB;by_cases hp:p n=true
  ·rw [AK hp];exact⟨AG _,.inr ⟨n,rfl,hp⟩,λj h4 h5=>by omega⟩
  ·rw [A7 hp];refine⟨by omega,h2,λj h4 h5=>?_⟩;rcases Cr j n with h6|h6
   ·exact h3 j h4 h6
   ·have:j=n:=(by omega);subst this;simpa using hp
theorem Jw{p:Nat->Bool}{n m:Nat}(h1:m<=n)(h2:m=0\/ ∃ k,m=k+1/\p k=true)(h3: ∀ j,m<=j->j<n->p j=false):EB p n=m:=by
 obtain⟨g1,g2,g3⟩:=GH p n;rcases Ys (EB p n) m with h|h|h
 ·rcases h2 with rfl|⟨k,rfl,hk⟩
  ·omega
  ·have:=g3 k (by omega) (by omega);rw[hk]at this;simp at this
 ·exact h
 ·rcases g2 with h4|⟨k,h4,hk⟩
  ·omega
  ·have:=h3 k (by omega) (by omega);rw[hk]at this;simp at this
theorem Lh{p q:Nat->Bool}: ∀ n,(∀ j,j<n->p j=q j)->EB p n=EB q n
 |0,_=>rfl
 |n+1,h=>by
  unfold EB;rw[h n (by omega),Lh n (λj hj=>h j (by omega))]
def FV(S:Nat->Bool):Nat->Nat
 |0=>0
 |n+1=>FV S n+if S n then 0 else 1
theorem UF{S S':Nat->Bool}: ∀ n,(∀ j,j<n->S j=S' j)->FV S n=FV S' n
 |0,_=>rfl
 |n+1,h=>by unfold FV;rw[h n (by omega),UF n (λj hj=>h j (by omega))]
theorem PT{S S':Nat->Bool}{i:Nat}(hi:S i=false)(hi':S' i=true)(ho: ∀ j,j≠i->S j=S' j): ∀ n,i<n->FV S n=FV S' n+1
 |0,h=>by omega
 |n+1,h=>by
  unfold FV;by_cases he:i=n
  ·subst he;rw[UF i (λj hj=>ho j (by omega)),hi,hi'];simp
  ·rw [PT hi hi' ho n (by omega),ho n (λe=>he e.symm)];omega
theorem PU{S:Nat->Bool}: ∀ n,FV S n=0-> ∀ j,j<n->S j=true
 |0,_,j,hj=>by omega
 |n+1,h,j,hj=>by
  unfold FV at h;by_cases he:j=n
  ·subst he;cases hs:S j with
   |true=>rfl
   |false=>rw[hs]at h;simp at h
  ·exact PU n (by omega) j (by omega)
def Cz(ops:List Oper)(t j:Nat):Bool:=decide ((ops[j]?).bind (·.dst)=some t)
def CE(ow:Nat->Bool)(wf:FuncId->Bool)(ops:List Oper)(sk:Nat->AE)(j:Nat):Bool:=match ops[j]? with
 |some o=>BL ow wf o&&decide (D4 ops (sk j) o=some true)
 |none=>false
theorem F6{sk:Nat->AE}{j:Nat}:CE ow wf ops sk j=true↔Wd ow wf ops sk j:=by
 unfold CE Wd;cases ops[j]? with
 |none=>simp
 |some o=>simp
def CF(ops:List Oper)(sk:Nat->AE)(S:Nat->Bool):AE:=λt=>sk (EB (λj=>S j&&Cz ops t j) ops.length) t
def GS(ow:Nat->Bool)(wf:FuncId->Bool)(ops:List Oper)(sk:Nat->AE)(hk:Nat->A0)(S:Nat->Bool):A0:=hk (EB (λj=>S j&&CE ow wf ops sk j) ops.length)
variable {sk:Nat->AE}{hk:Nat->A0}{vk:Nat->PV}
theorem Tr.JD(tr:Tr P ow wf n ops 0 sk hk vk){t:Nat}{i:Nat}: ∀ d,i+d<=ops.length->(∀ j,i<=j->j<i+d->Cz ops t j=false)->sk (i+d) t=sk i t
 |0,_,_=>rfl
 |d+1,hd,hw=>by
  have ih:=Tr.JD tr (t:=t) (i:=i) d (by omega) (λj h1 h2=>hw j h1 (by omega));rw[← ih];have hlt:i+d<ops.length:=by omega
  obtain⟨_,b,h1,h2,h3⟩:=tr.step (i+d) ops[i+d] (Bj _) (List.getElem?_eq_getElem hlt);have hnw:=hw (i+d) (by omega) (by omega);simp only[Cz,List.getElem?_eq_getElem hlt,DJ,Cw]at hnw;have hupd: ∀ v,Ak (sk (i+d)) ops[i+d].dst v t=sk (i+d) t:=by
   intro v;cases hdst:ops[i+d].dst with
   |none=>rfl
   |some dd=>
    simp only[Ak,Ci];rw[A7];intro e;subst e;exact hnw hdst
  rw[show i+(d+1)=i+d+1 by omega];cases b with
  |false=>rw[(h2 rfl).1];exact hupd _
  |true=>rw[(h3 rfl).1];exact hupd _
theorem Tr.P4(tr:Tr P ow wf n ops 0 sk hk vk){i:Nat}: ∀ d,i+d<=ops.length->(∀ j,i<=j->j<i+d->CE ow wf ops sk j=false)->hk (i+d)=hk i
 |0,_,_=>rfl
 |d+1,hd,hw=>by
  have ih:=Tr.P4 tr (i:=i) d (by omega) (λj h1 h2=>hw j h1 (by omega));rw[← ih];have hlt:i+d<ops.length:=by omega
  obtain⟨_,b,h1,h2,h3⟩:=tr.step (i+d) ops[i+d] (Bj _) (List.getElem?_eq_getElem hlt);have hnw:=hw (i+d) (by omega) (by omega);rw[show i+(d+1)=i+d+1 by omega];cases b with
  |false=>exact(h2 rfl).2
  |true=>
   refine(h3 rfl).2.2 ?_;cases hiw:BL ow wf ops[i+d]with
   |false=>rfl
   |true=>
    have:CE ow wf ops sk (i+d)=true:=F6.2 ⟨_,List.getElem?_eq_getElem hlt,hiw,h1⟩;rw[hnw]at this;simp at this
structure C9(ops:List Oper)(S:Nat->Bool)(i:Nat)(o:Oper):Prop where
 at_:ops[i]? =some o
 new:S i=false
 closed:IH ops S
 before: ∀ e∈o.after.toList,Region.binds .any e=true->S e.on=true
theorem C9.Hb{S:Nat->Bool}{i:Nat}{o:Oper}(r:C9 ops S i o){j:Nat}(hp:Go.AM.pre ops j i=true):S j=true:=by
 obtain⟨e,h1,h2,h3⟩:=Mi r.at_ hp;have he:=r.before e h1 h2;rcases h3 with rfl|⟨h4,h5⟩
 ·exact he
 ·exact r.closed.pre e.on j (by have:=(List.getElem?_eq_some_iff.1 r.at_).1;omega) he h5
theorem C9.GE{S:Nat->Bool}{i:Nat}{o:Oper}(r:C9 ops S i o){j:Nat}(hj:j<ops.length)(hs:S j=true):Go.AM.pre ops i j=false:=by
 cases hp:Go.AM.pre ops i j with
 |false=>rfl
 |true=>have:=r.closed.pre j i hj hs hp;rw[r.new]at this;simp at this
theorem C9.slot(hd:Jv ow wf ops)(tr:Tr P ow wf n ops 0 sk hk vk){S:Nat->Bool}{i:Nat}{o:Oper}(r:C9 ops S i o){t:Nat}(ht:t∈F4 ops o):CF ops sk S t=sk i t:=by
 have hi:i<ops.length:=(List.getElem?_eq_some_iff.1 r.at_).1;obtain⟨h1,h2,h3⟩:=GH (λj=>S j&&Cz ops t j) ops.length;unfold CF;generalize EB (λj=>S j&&Cz ops t j) ops.length=m at*
 have ord: ∀ j,j<ops.length->j≠i->Cz ops t j=true->Go.AM.pre ops j i=true\/Go.AM.pre ops i j=true:=by
  intro j hj hne hw;simp only[Cz,List.getElem?_eq_getElem hj,DJ,Ba]at hw;exact hd.slot j i _ o hne (List.getElem?_eq_getElem hj) r.at_ t hw ht
 rcases Cr i m with h4|h4
 ·-- a writer behind i has been done: none can be
  rcases h2 with h2|⟨k,h2,h5⟩
  ·omega
  ·simp only[AV]at h5;by_cases hki:k=i
   ·subst hki;rw[r.new]at h5;simp at h5
   ·rcases ord k (by omega) hki h5.2 with h6|h6
    ·have:=Mj hd i k hi h6;omega
    ·rw [r.GE (by omega) h5.1]at h6;simp at h6
 ·have:=tr.JD (t:=t) (i:=m) (i-m) (by omega) (λj h5 h6=>?_)
  ·rw [show m+(i-m)=i by omega]at this;exact this.symm
  ·cases hw:Cz ops t j with
   |false=>rfl
   |true=>
    have hns:=h3 j h5 (by omega);rw[hw,Cm]at hns;rcases ord j (by omega) (by omega) hw with h7|h7
    ·rw [r.Hb h7]at hns;simp at hns
    ·have:=Mj hd j i (by omega) h7;omega
theorem C9.pW(hd:Jv ow wf ops)(tr:Tr P ow wf n ops 0 sk hk vk){S:Nat->Bool}{i:Nat}{o:Oper}(r:C9 ops S i o)(hw:D4 ops (sk i) o=some true):
  (BL ow wf o=true->GS ow wf ops sk hk S=hk i/\Ap P ow o (A9 (sk i)) (hk i) (vk i) (hk (i+1)))/\
  (BL ow wf o=false->Ap P ow o (A9 (sk i)) (GS ow wf ops sk hk S) (vk i) (GS ow wf ops sk hk S)):=by
 have hi:i<ops.length:=(List.getElem?_eq_some_iff.1 r.at_).1;obtain⟨h1,h2,h3⟩:=GH (λj=>S j&&CE ow wf ops sk j) ops.length;obtain⟨_,b,hb,_,hb2⟩:=tr.step i o (Bj _) r.at_;rw[hw]at hb;simp at hb;subst hb;obtain⟨_,hdo,hsame⟩:=hb2 rfl;unfold GS;generalize EB (λj=>S j&&CE ow wf ops sk j) ops.length=m at*;refine⟨λhiw=>⟨?_,hdo⟩,λhiw=>?_⟩
 ·have ord: ∀ j,j<ops.length->j≠i->CE ow wf ops sk j=true->Go.AM.pre ops j i=true\/Go.AM.pre ops i j=true:=by
   intro j hj hne hwd;obtain⟨q,hq,hqw,_⟩:=F6.1 hwd;exact hd.ww j i q o hne hq r.at_ hqw hiw
  rcases Cr i m with h4|h4
  ·rcases h2 with h2|⟨k,h2,h5⟩
   ·omega
   ·simp only[AV]at h5;by_cases hki:k=i
    ·subst hki;rw[r.new]at h5;simp at h5
    ·rcases ord k (by omega) hki h5.2 with h6|h6
     ·have:=Mj hd i k hi h6;omega
     ·rw [r.GE (by omega) h5.1]at h6;simp at h6
  ·have:=tr.P4 (i:=m) (i-m) (by omega) (λj h5 h6=>?_)
   ·rw [show m+(i-m)=i by omega]at this;exact this.symm
   ·cases hwd:CE ow wf ops sk j with
    |false=>rfl
    |true=>
     have hns:=h3 j h5 (by omega);rw[hwd,Cm]at hns;rcases ord j (by omega) (by omega) hwd with h7|h7
     ·rw [r.Hb h7]at hns;simp at hns
     ·have:=Mj hd j i (by omega) h7;omega
 ·rw [hsame hiw]at hdo;have hn:Nd ow wf ops sk i o:=⟨r.at_,hiw,hw⟩;rcases Cr i m with h4|h4
  ·rcases h2 with h2|⟨k,h2,h5⟩
   ·omega
   ·simp only[AV]at h5;have hki:k≠i:=(by intro e;subst e;rw[r.new]at h5;simp at h5);have:=(tr.apart i k o (Bj _) (Bj _) hn (F6.1 h5.2)).1 (by omega);rw[h2];rcases this with h6|h6
    ·rw [r.GE (by omega) h5.1]at h6;simp at h6
    ·exact h6
  ·-- the first change between m and i that has not been done
   have hex:(∀ j,m<=j->j<i->CE ow wf ops sk j=false)\/ ∃ j,m<=j/\j<i/\CE ow wf ops sk j=true/\ ∀ l,m<=l->l<j->CE ow wf ops sk l=false:=by
    have: ∀ d,(∀ j,m<=j->j<m+d->CE ow wf ops sk j=false)\/ ∃ j,m<=j/\j<m+d/\CE ow wf ops sk j=true/\ ∀ l,m<=l->l<j->CE ow wf ops sk l=false:=by
     intro d
     induction d with
     |zero=>left;intro j a b;omega
     |succ d ih=>
      rcases ih with ih|⟨j,g1,g2,g3,g4⟩
      ·cases hx:CE ow wf ops sk (m+d)with
       |false=>
        left;intro j a b;rcases Cr j (m+d)with c|c
        ·exact ih j a c
        ·have:j=m+d:=(by omega);subst this;exact hx
       |true=>exact .inr ⟨m+d,by omega,by omega,hx,λl a b=>ih l a b⟩
      ·exact .inr ⟨j,g1,by omega,g3,g4⟩
    have:=this (i-m)
    rwa [show m+(i-m)=i by omega]at this
   rcases hex with hno|⟨j,g1,g2,g3,g4⟩
   ·have:=tr.P4 (i:=m) (i-m) (by omega) (λj a b=>hno j a (by omega));rw[show m+(i-m)=i by omega]at this;rw[← this];exact hdo
   ·have:=tr.P4 (i:=m) (j-m) (by omega) (λl a b=>g4 l a (by omega));rw[show m+(j-m)=j by omega]at this;rw[← this];have hns:=h3 j g1 (by omega);rw[g3,Cm]at hns;rcases(tr.apart i j o (Bj _) (Bj _) hn (F6.1 g3)).2 g2 with h6|h6
    ·rw [r.Hb h6]at hns;simp at hns
    ·exact h6
theorem C9.next(hd:Jv ow wf ops)(tr:Tr P ow wf n ops 0 sk hk vk){S S':Nat->Bool}{i:Nat}{o:Oper}(r:C9 ops S i o)(hs':S' i=true)(ho: ∀ j,j≠i->S' j=S j){x:PV}(hx:sk (i+1)=Ak (sk i) o.dst x):
  Ak (CF ops sk S) o.dst x=CF ops sk S':=by
 have hi:i<ops.length:=(List.getElem?_eq_some_iff.1 r.at_).1;funext t;have hwr:Cz ops t i=decide (o.dst=some t):=by simp[Cz,r.at_]
 by_cases ht:o.dst=some t
 ·have hl:t∈F4 ops o:=by simp[F4,ht]
  have h1:Ak (CF ops sk S) o.dst x t=x:=by rw[ht];simp[Ak,Ci]
  have h2:sk (i+1) t=x:=by rw[hx,ht];simp[Ak,Ci]
  rw[h1, ← h2];unfold CF;rw[Jw (m:=i+1) (by omega) (.inr ⟨i,rfl,by rw[hs',hwr];simp[ht]⟩)];intro j h3 h4;cases hw:Cz ops t j with
  |false=>simp
  |true=>
   cases hsj:S' j with
   |false=>simp
   |true=>
    rw[ho j (by omega)]at hsj;simp only[Cz,List.getElem?_eq_getElem h4,DJ,Ba]at hw;rcases hd.slot j i _ o (by omega) (List.getElem?_eq_getElem h4) r.at_ t hw hl with h7|h7
    ·have:=Mj hd i j hi h7;omega
    ·rw [r.GE h4 hsj]at h7;simp at h7
 ·have h1:Ak (CF ops sk S) o.dst x t=CF ops sk S t:=by
   cases hdst:o.dst with
   |none=>rfl
   |some d=>
    simp only[Ak,Ci];rw[A7];intro e;subst e;exact ht hdst
  rw[h1];unfold CF;rw[Lh ops.length (λj hj=>?_)];by_cases hji:j=i
  ·subst hji;rw[hwr];simp[ht]
  ·rw [ho j hji]
theorem C9.pX(hd:Jv ow wf ops){S S':Nat->Bool}{i:Nat}{o:Oper}(r:C9 ops S i o)(hs':S' i=true)(ho: ∀ j,j≠i->S' j=S j):
  (CE ow wf ops sk i=true->GS ow wf ops sk hk S'=hk (i+1))/\(CE ow wf ops sk i=false->GS ow wf ops sk hk S'=GS ow wf ops sk hk S):=by
 have hi:i<ops.length:=(List.getElem?_eq_some_iff.1 r.at_).1;refine⟨λhw=>?_,λhw=>?_⟩
 ·unfold GS;rw[Jw (m:=i+1) (by omega) (.inr ⟨i,rfl,by rw[hs',hw];try rfl⟩)];intro j h3 h4;cases hwj:CE ow wf ops sk j with
  |false=>simp
  |true=>
   cases hsj:S' j with
   |false=>simp
   |true=>
    rw[ho j (by omega)]at hsj;obtain⟨q,hq,hqw,_⟩:=F6.1 hwj;obtain⟨q',hq',hqw',_⟩:=F6.1 hw;rw[r.at_]at hq';simp at hq';subst hq';rcases hd.ww j i q o (by omega) hq r.at_ hqw hqw' with h7|h7
    ·have:=Mj hd i j hi h7;omega
    ·rw [r.GE h4 hsj]at h7;simp at h7
 ·unfold GS;rw[Lh ops.length (λj hj=>?_)];by_cases hji:j=i
  ·subst hji;rw[hw];simp
  ·rw [ho j hji]
theorem Ap.wp{β:BK}{s:AE}{h h':A0}{a:Act}{w:World}{o:Oper}{v:PV}(st:St n β s h a w)(hd:o.dst.all (λd=>decide (d<n))=true)(hdo:Ap P ow o (A9 s) h v h'){K:Act->World->Prop}{Q:Exit->Act->World->Prop}
  (hk: ∀ a' w',To n β h w (λs' h2=>s'=Ak s o.dst v/\h2=h') a' w'->K a' w'):o.wp P a w K Q:=by
 refine UC (P:=P) (ow:=ow) (K':=λs' h2=>s'=Ak s o.dst v/\h2=h') st hd ?_ hk;unfold Ap at hdo;unfold CY;split at hdo
 ·rename_i f args hc;refine λβ w vals sm hr=>(hdo β w vals sm hr).mono ?_;rintro e w' ⟨r,h3,β',u,he,⟨rfl,rfl⟩,rest⟩;exact⟨r,h3,β',u,he,⟨rfl,rfl⟩,rest⟩
 ·rw [hdo];exact⟨rfl,rfl⟩
theorem RD{s s':AE}{o:Oper}(h: ∀ t,t∈F4 ops o->s t=s' t):D4 ops s o=D4 ops s' o:=by
 unfold D4;cases hg:o.guard with
 |none=>rfl
 |some gw=>
  obtain⟨g,want⟩:=gw;cases ht:(ops[g]?).bind (·.dst)with
  |none=>simp[ht]
  |some t=>
   simp only[ht];rw[h t (by simp[F4,hg,ht])]
theorem aF(hd:Jv ow wf ops)(tr:Tr P ow wf n ops 0 sk hk vk){K:AE->A0->Prop}(hK:K (sk ops.length) (hk ops.length)){Q:Exit->Act->World->Prop}:
  ∀ (fuel:Nat)(listed:Array Bool)(β:BK)(a:Act)(w:World),listed.size=ops.length->IH ops (λj=>listed.getD j false)->FV (λj=>listed.getD j false) ops.length<=fuel->
   St n β (CF ops sk λj=>listed.getD j false) (GS ow wf ops sk hk λj=>listed.getD j false) a w->
   (∀ a' w',To n β (GS ow wf ops sk hk λj=>listed.getD j false) w K a' w'->Q .normal a' w')->wpAny P .any ops.toArray Q fuel listed a w:=by
 have DA: ∀ (listed:Array Bool)(β:BK)(a:Act)(w:World),(∀ j,j<ops.length->listed.getD j false=true)->
   St n β (CF ops sk λj=>listed.getD j false) (GS ow wf ops sk hk λj=>listed.getD j false) a w->
   (∀ a' w',To n β (GS ow wf ops sk hk λj=>listed.getD j false) w K a' w'->Q .normal a' w')->Q .normal a w:=by
  intro listed β a w hall st hk';have e1:CF ops sk (λj=>listed.getD j false)=sk ops.length:=by
   funext t;obtain⟨h1,h2,h3⟩:=GH (λj=>listed.getD j false&&Cz ops t j) ops.length;unfold CF;generalize EB (λj=>listed.getD j false&&Cz ops t j) ops.length=m at*;have:=tr.JD (t:=t) (i:=m) (ops.length-m) (by omega) (λj h5 h6=>by
    have:=h3 j h5 (by omega);rw[hall j (by omega),B7]at this;exact this)
   rw[show m+(ops.length-m)=ops.length by omega]at this;exact this.symm
  have e2:GS ow wf ops sk hk (λj=>listed.getD j false)=hk ops.length:=by
   obtain⟨h1,h2,h3⟩:=GH (λj=>listed.getD j false&&CE ow wf ops sk j) ops.length;unfold GS;generalize EB (λj=>listed.getD j false&&CE ow wf ops sk j) ops.length=m at*;have:=tr.P4 (i:=m) (ops.length-m) (by omega) (λj h5 h6=>by
    have:=h3 j h5 (by omega);rw[hall j (by omega),B7]at this;exact this)
   rw[show m+(ops.length-m)=ops.length by omega]at this;exact this.symm
  exact hk' a w ⟨_,_,β,by rw[← e1, ← e2]at hK;exact hK,st,BR.refl⟩
 have rdy: ∀ (listed:Array Bool)(i:Nat),listed.size=ops.length->IH ops (λj=>listed.getD j false)->i∈Region.ready .any ops.toArray listed-> ∃ o,C9 ops (λj=>listed.getD j false) i o:=by
  intro listed i hsz hc hi;simp only[Region.ready,List.mem_filter,List.mem_range,List.size_toArray,AV,EI,List.getElem?_toArray]at hi;obtain⟨h1,h2,h3⟩:=hi;rw[List.getElem?_eq_getElem h1]at h3;simp only[Bq,BD,Ox,EH,EI]at h3;refine⟨_,List.getElem?_eq_getElem h1,?_,hc,λe he hb=>?_⟩
  ·rw [Da,NL (by omega)]at h2⊢;simpa using h2
  ·rcases h3 e (I9.1 he)with h4|h4
   ·rw [hb]at h4;simp at h4
   ·exact h4
 have noRdy: ∀ (listed:Array Bool),listed.size=ops.length->Region.ready .any ops.toArray listed=[]-> ∀ j,j<ops.length->listed.getD j false=true:=by
  intro listed hsz hr j
  induction j using Nat.strongRecOn with
  |_ j ih=>
   intro hj;cases hs:listed.getD j false with
   |true=>rfl
   |false=>
    have hm:j∈Region.ready .any ops.toArray listed:=by
     simp only[Region.ready,List.mem_filter,List.mem_range,List.size_toArray,AV,EI,List.getElem?_toArray];refine⟨hj,?_,?_⟩
     ·rw [Da,NL (by omega)]at hs⊢;simpa using hs
     ·rw [List.getElem?_eq_getElem hj];simp only[Bq,BD,Ox,EH,EI];intro e he;cases hb:Region.binds .any e with
      |false=>exact .inl rfl
      |true=>
       have hlt:=hd.back j _ (List.getElem?_eq_getElem hj) e (I9.2 he) hb;exact .inr (ih e.on hlt (by omega))
    rw[hr]at hm;simp at hm
 intro fuel
 induction fuel with
 |zero=>
  intro listed β a w hsz hc hm st hk';have hall:=PU (S:=λj=>listed.getD j false) ops.length (by omega);refine⟨?_,DA listed β a w hall st hk'⟩;apply List.eq_nil_iff_forall_not_mem.2;intro i hi;obtain⟨o,r⟩:=rdy listed i hsz hc hi;have:=hall i (List.getElem?_eq_some_iff.1 r.at_).1;have hn:=r.new;rw[this]at hn;simp at hn
 |succ fuel ih=>
  intro listed β a w hsz hc hm st hk';refine⟨λhr=>DA listed β a w (noRdy listed hsz hr) st hk',λi hi=>?_⟩;obtain⟨o,r⟩:=rdy listed i hsz hc hi;have hil:i<ops.length:=(List.getElem?_eq_some_iff.1 r.at_).1;have hs':(listed.setIfInBounds i true).getD i false=true:=by
   rw[Da,Yt (by omega)];try rfl
  have ho: ∀ j,j≠i->(listed.setIfInBounds i true).getD j false=listed.getD j false:=by
   intro j hj;rw[Da,MQ (Ne.symm hj), ← Da]
  have hc':IH ops (λj=>(listed.setIfInBounds i true).getD j false):=by
   intro j q hq hj e he hb;by_cases heq:e.on=i
   ·simp only[heq];exact hs'
   ·simp only;rw[ho _ heq];by_cases hji:j=i
    ·subst hji;have:=r.at_;rw[hq]at this;simp at this;subst this;exact r.before e he hb
    ·simp only at hj;rw[ho j hji]at hj;exact hc j q hq hj e he hb
  have hm':FV (λj=>(listed.setIfInBounds i true).getD j false) ops.length<=fuel:=by
   have:=PT (S:=λj=>listed.getD j false) (S':=λj=>(listed.setIfInBounds i true).getD j false) r.new hs' (λj hj=>(ho j hj).symm) ops.length hil;omega
  obtain⟨hdst,b,hb,hb1,hb2⟩:=tr.step i o (Bj _) r.at_;have hlook: ∀ t,t∈F4 ops o->CF ops sk (λj=>listed.getD j false) t=sk i t:=λt ht=>r.slot hd tr ht;have hwant:=PO st (o:=o) (ops:=ops) (by rw[RD hlook];exact hb);have hnext:=λ{x:PV}(hx:sk (i+1)=Ak (sk i) o.dst x)=>r.next (S':=λj=>(listed.setIfInBounds i true).getD j false) hd tr hs' ho hx
  have hnextH:=r.pX (S':=λj=>(listed.setIfInBounds i true).getD j false) (sk:=sk) (hk:=hk) (ow:=ow) (wf:=wf) hd hs' ho;unfold wpOp;simp only[List.getElem?_toArray,r.at_];rw[hwant];cases b with
  |false=>
   obtain⟨e1,e2⟩:=hb1 rfl;simp only[BQ,AP];have st':=st.undef (d:=o.dst) hdst;rw[hnext e1]at st';have hwdf:CE ow wf ops sk i=false:=by
    cases hx:CE ow wf ops sk i with
    |false=>rfl
    |true=>
     obtain⟨q,hq,_,hqw⟩:=F6.1 hx;rw[r.at_]at hq;simp at hq;subst hq;rw[hb]at hqw;simp at hqw
   have eh:=hnextH.2 hwdf;refine ih _ β _ w (by simpa using hsz) hc' hm' (by rw[eh];exact st') (λa' w' ht=>hk' a' w' ?_);rw[eh]at ht;exact ht
  |true=>
   obtain⟨e1,e2,e3⟩:=hb2 rfl;simp only[AO];left;have hdoes:=r.pW hd tr hb;have hops: ∀ t,.tmp t∈o.op.operands->sk i t=CF ops sk (λj=>listed.getD j false) t:=λt ht=>(hlook t (by
    simp only[F4,List.mem_append,List.mem_filterMap];exact .inl (.inl ⟨.tmp t,I9.2 ht,rfl⟩))).symm
   cases hiw:BL ow wf o with
   |true=>
    obtain⟨g1,g2⟩:=hdoes.1 hiw;have hwd:CE ow wf ops sk i=true:=F6.2 ⟨o,r.at_,hiw,hb⟩;have eh:=hnextH.1 hwd;refine Ap.wp st hdst (by rw[g1];exact Lg hops g2) (λa' w' ht=>?_);obtain⟨s',h',β',⟨rfl,rfl⟩,st',ex⟩:=ht;rw[hnext e1]at st';refine ih _ β' a' w' (by simpa using hsz) hc' hm' (by rw[eh];exact st') (λa'' w'' ht'=>hk' a'' w'' ?_);rw[eh]at ht';exact ht'.mono ex (λ_ _ x=>x)
   |false=>
    have g2:=hdoes.2 hiw;have hwd:CE ow wf ops sk i=false:=by
     cases hx:CE ow wf ops sk i with
     |false=>rfl
     |true=>
      obtain⟨q,hq,hqw,_⟩:=F6.1 hx;rw[r.at_]at hq;simp at hq;subst hq;rw[hiw]at hqw;simp at hqw
    have eh:=hnextH.2 hwd;refine Ap.wp st hdst (Lg hops g2) (λa' w' ht=>?_);obtain⟨s',h',β',⟨rfl,rfl⟩,st',ex⟩:=ht;rw[hnext e1]at st';refine ih _ β' a' w' (by simpa using hsz) hc' hm' (by rw[eh];exact st') (λa'' w'' ht'=>hk' a'' w'' ?_);rw[eh]at ht';exact ht'.mono ex (λ_ _ x=>x)
theorem aG{id:Nat}(hm:P.follows .mixedOrders=true){β:BK}{s:AE}{h:A0}{a:Act}{w:World}{K:AE->A0->Prop}{Q:Exit->Act->World->Prop}(st:St n β s h a w)(hw:Ta P ow wf n ops K s h)
  (hk': ∀ a' w',To n β h w K a' w'->Q .normal a' w'):(Code.region id ops.toArray true).wp P Q a w:=by
 obtain⟨h1,h2⟩:=hw;have hd:=Jv.of h1;obtain⟨sk,hk,vk,e1,e2,hK,tr,_,_⟩:=PQ ops 0 [] [] s h (by simp) h2;rw[C7]at hK;refine wp_region_any hm ?_;obtain⟨s1,s2⟩:=st.Bb.drew;have emp: ∀ (p:Nat->Bool),(λj=>((Array.replicate ops.toArray.size false).getD j false&&p j))=λ_=>false:=by
  intro p;funext j;rw[Da,Qh];split<;>rfl
 have l0:EB (λ_=>false) ops.length=0:=Jw (Bj _) (.inl rfl) (λ_ _ _=>rfl);have hval:CF ops sk (λj=>(Array.replicate ops.toArray.size false).getD j false)=s:=by
  funext t;unfold CF;rw[emp,l0,e1]
 have hheap:GS ow wf ops sk hk (λj=>(Array.replicate ops.toArray.size false).getD j false)=h:=by
  unfold GS;rw[emp,l0,e2]
 have hnone: ∀ j,(Array.replicate ops.toArray.size false).getD j false=false:=by
  intro j;rw[Da,Qh];split<;>rfl
 refine aF hd tr hK _ _ β a w.drew (by simp) (λj o _ hj=>by simp only[hnone]at hj;simp at hj) ?_ ?_ ?_
 ·have: ∀ m,FV (λj=>(Array.replicate ops.toArray.size false).getD j false) m<=m:=by
   intro m
   induction m with
   |zero=>exact AG _
   |succ m ih=>unfold FV;split<;>omega
  simpa using this ops.length
 ·rw [hval,hheap];exact⟨s1,λt=>s2.rep (st.rep t),st.size,st.defers⟩
 ·rw [hheap];exact λa' w' ht=>hk' a' w' (ht.mono s2 (λ_ _ x=>x))
end
end Go.AM
namespace Go.AM
mutual
def Bc(n:Nat):PV->Prop
 | .sc _=>True
 | .ptr id _ _=>id<n
 | .Aj cs=>Bo n cs
 | .own id _ _=>id<n
 | .A1 _ rows=>B9 n rows
 | .emp=>True
 | .mp id=>id<n
 | .agg cs=>Bo n cs
 | .Al cs=>Bo n cs
 | .fn _ a b=>Bo n a/\Bo n b
 | .ab _ _ _ _ _=>True
def Bo(n:Nat):List PV->Prop
 |[]=>True
 |p::ps=>Bc n p/\Bo n ps
def B9(n:Nat):List (List PV)->Prop
 |[]=>True
 |r::rs=>Bo n r/\B9 n rs
end
mutual
theorem aH{n m:Nat}(h:n<=m):(p:PV)->Bc n p->Bc m p
 | .sc _,_=>by simp only[Bc]
 | .ptr _ _ _,hp=>by simp only[Bc]at hp⊢;omega
 | .Aj cs,hp=>by simp only[Bc]at hp⊢;exact Kk h cs hp
 | .own _ _ _,hp=>by simp only[Bc]at hp⊢;omega
 | .A1 _ rows,hp=>by simp only[Bc]at hp⊢;exact RE h rows hp
 | .emp,_=>by simp only[Bc]
 | .mp _,hp=>by simp only[Bc]at hp⊢;omega
 | .agg cs,hp=>by simp only[Bc]at hp⊢;exact Kk h cs hp
 | .Al cs,hp=>by simp only[Bc]at hp⊢;exact Kk h cs hp
 | .fn _ a b,hp=>by simp only[Bc]at hp⊢;exact⟨Kk h a hp.1,Kk h b hp.2⟩
 | .ab _ _ _ _ _,_=>by simp only[Bc]
theorem Kk{n m:Nat}(h:n<=m):(l:List PV)->Bo n l->Bo m l
 |[],_=>by simp only[Bo]
 |p::ps,hp=>by simp only[Bo]at hp⊢;exact⟨aH h p hp.1,Kk h ps hp.2⟩
theorem RE{n m:Nat}(h:n<=m):(l:List (List PV))->B9 n l->B9 m l
 |[],_=>by simp only[B9]
 |p::ps,hp=>by simp only[B9]at hp⊢;exact⟨Kk h p hp.1,RE h ps hp.2⟩
end
def F7(n:Nat):Am->Prop
 | .arr _ rows=>B9 n rows
 | .map es=>Bo n (es.map (·.2))
 | .Ih _ _ _=>True
section
variable {β:BK}{n m:Nat}{F F':Nat->Prop}{w:World}
mutual
theorem AA.inN:(p:PV)->(x:Value)->AA β m F w p x->Bc m p
 | .sc _,_,_=>by simp only[Bc]
 | .ptr _ _ _,_,h=>by simp only[Bc];simp only[AA]at h;exact h.1
 | .Aj cs,_,h=>by simp only[Bc];simp only[AA]at h;obtain⟨b,o,_,_,h3⟩:=h;exact Bk.inN cs b o h3
 | .own _ _ _,_,h=>by simp only[Bc];simp only[AA]at h;exact h.1
 | .A1 z rows,_,h=>by
  simp only[Bc];simp only[AA]at h;obtain⟨a,cap,_,_,_,h3⟩:=h;rcases h3 with rfl|⟨b,o,_,_,h5⟩
  ·simp only[B9]
  ·exact BI.inN z rows b o h5
 | .emp,_,_=>by simp only[Bc]
 | .mp _,_,h=>by simp only[Bc];simp only[AA]at h;exact h.1
 | .agg cs,_,h=>by simp only[Bc];simp only[AA]at h;obtain⟨xs,_,_,h3⟩:=h;exact AT.inN cs xs h3
 | .Al cs,_,h=>by simp only[Bc];simp only[AA]at h;obtain⟨xs,_,h3⟩:=h;exact AT.inN cs xs h3
 | .fn _ a b,_,h=>by simp only[Bc];simp only[AA]at h;obtain⟨xs,ys,_,h3,h4⟩:=h;exact⟨AT.inN a xs h3,AT.inN b ys h4⟩
 | .ab _ _ _ _ _,_,_=>by simp only[Bc]
theorem Bk.inN:(l:List PV)->(b o:Nat)->Bk β m F w l b o->Bo m l
 |[],_,_,_=>by simp only[Bo]
 |p::ps,b,o,h=>by
  simp only[Bo];simp only[Bk]at h;obtain⟨⟨v,_,_,h3⟩,h4⟩:=h;exact⟨AA.inN p v h3,Bk.inN ps b (o+1) h4⟩
theorem BI.inN(z:Nat):(l:List (List PV))->(b o:Nat)->BI β m F w z l b o->B9 m l
 |[],_,_,_=>by simp only[B9]
 |r::rs,b,o,h=>by
  simp only[B9];simp only[BI]at h;exact⟨Bk.inN r b o h.1.2,BI.inN z rs b (o+z) h.2⟩
theorem AT.inN:(l:List PV)->(xs:List Value)->AT β m F w l xs->Bo m l
 |[],_,_=>by simp only[Bo]
 |_::_,[],h=>by simp only[AT]at h
 |p::ps,v::vs,h=>by
  simp only[Bo];simp only[AT]at h;exact⟨AA.inN p v h.1,AT.inN ps vs h.2⟩
end
mutual
theorem AA.low(hF: ∀ b,F b->F' b):(p:PV)->(x:Value)->Bc n p->AA β m F w p x->AA β n F' w p x
 | .sc _,_,_,h=>by simpa only[AA]using h
 | .ptr _ _ _,_,hs,h=>by simp only[Bc]at hs;simp only[AA]at h⊢;exact⟨hs,h.2⟩
 | .Aj cs,_,hs,h=>by
  simp only[Bc]at hs;simp only[AA]at h⊢;obtain⟨b,o,h1,h2,h3⟩:=h;exact⟨b,o,hF b h1,h2,Bk.low hF cs b o hs h3⟩
 | .own _ _ _,_,hs,h=>by simp only[Bc]at hs;simp only[AA]at h⊢;exact⟨hs,h.2⟩
 | .A1 z rows,_,hs,h=>by
  simp only[Bc]at hs;simp only[AA]at h⊢;obtain⟨a,cap,h1,h2,h2',h3⟩:=h;exact⟨a,cap,h1,h2,h2',h3.imp id λ⟨b,o,g1,g2,g3⟩=>⟨b,o,hF b g1,g2,BI.low hF z rows b o hs g3⟩⟩
 | .emp,_,_,h=>by simpa only[AA]using h
 | .mp _,_,hs,h=>by simp only[Bc]at hs;simp only[AA]at h⊢;exact⟨hs,h.2⟩
 | .agg cs,_,hs,h=>by
  simp only[Bc]at hs;simp only[AA]at h⊢;obtain⟨xs,h1,h2,h3⟩:=h;exact⟨xs,h1,h2,AT.low hF cs xs hs h3⟩
 | .Al cs,_,hs,h=>by
  simp only[Bc]at hs;simp only[AA]at h⊢;obtain⟨xs,h1,h3⟩:=h;exact⟨xs,h1,AT.low hF cs xs hs h3⟩
 | .fn _ a b,_,hs,h=>by
  simp only[Bc]at hs;simp only[AA]at h⊢;obtain⟨xs,ys,h1,h3,h4⟩:=h;exact⟨xs,ys,h1,AT.low hF a xs hs.1 h3,AT.low hF b ys hs.2 h4⟩
 | .ab _ _ _ _ _,_,_,h=>by simpa only[AA]using h
theorem Bk.low(hF: ∀ b,F b->F' b):(l:List PV)->(b o:Nat)->Bo n l->Bk β m F w l b o->Bk β n F' w l b o
 |[],_,_,_,_=>by simp only[Bk]
 |p::ps,b,o,hs,h=>by
  simp only[Bo]at hs;simp only[Bk]at h⊢;obtain⟨⟨v,h1,h2,h3⟩,h4⟩:=h;exact⟨⟨v,h1,h2,AA.low hF p v hs.1 h3⟩,Bk.low hF ps b (o+1) hs.2 h4⟩
theorem BI.low(hF: ∀ b,F b->F' b)(z:Nat):(l:List (List PV))->(b o:Nat)->B9 n l->BI β m F w z l b o->BI β n F' w z l b o
 |[],_,_,_,_=>by simp only[BI]
 |r::rs,b,o,hs,h=>by
  simp only[B9]at hs;simp only[BI]at h⊢;exact⟨⟨h.1.1,Bk.low hF r b o hs.1 h.1.2⟩,BI.low hF z rs b (o+z) hs.2 h.2⟩
theorem AT.low(hF: ∀ b,F b->F' b):(l:List PV)->(xs:List Value)->Bo n l->AT β m F w l xs->AT β n F' w l xs
 |[],[],_,_=>by simp only[AT]
 |[],_::_,_,h=>by simp only[AT]at h
 |_::_,[],_,h=>by simp only[AT]at h
 |p::ps,v::vs,hs,h=>by
  simp only[Bo]at hs;simp only[AT]at h⊢;exact⟨AA.low hF p v hs.1 h.1,AT.low hF ps vs hs.2 h.2⟩
end
end
theorem BN.low{β:BK}{n m:Nat}{F F':Nat->Prop}{w:World}(hF: ∀ b,F b->F' b){k:Md}{o:Am}(hs:F7 n o)(hk:BN β m F w k o):BN β n F' w k o:=by
 cases o with
 |arr z rows=>
  simp only[BN]at hk⊢;refine⟨hk.1,hk.2.imp id ?_⟩;rintro⟨b,c,e,fr,g1,g2,g3,g4,g5,g6⟩;exact⟨b,c,e,fr,g1,g2,g3,g4,g5,BI.low hF z rows _ _ hs g6⟩
 |map es=>
  simp only[BN]at hk⊢;obtain⟨b,fs,cl,g1,g2,g3⟩:=hk;refine⟨b,fs,cl,g1,g2,?_⟩;simp only[F7]at hs;have: ∀ (es:List (Value × PV))(fs:List MapEntry),Bo n (es.map (·.2))->CO β m F w es fs->CO β n F' w es fs:=by
   intro es
   induction es with
   |nil=>intro fs _ h;cases fs<;>simp_all [CO]
   |cons e es ih=>
    intro fs hs h;cases fs with
    |nil=>simp[CO]at h
    |cons f fs=>
     simp only[List.map_cons,Bo]at hs;simp only[CO]at h⊢;exact⟨⟨h.1.1,AA.low hF _ _ hs.1 h.1.2⟩,ih fs hs.2 h.2⟩
  exact this _ _ hs g3
 |Ih g lo hi=>
  simp only[BN]at hk⊢;exact⟨hk.1,hF g hk.2.1,hk.2.2⟩
theorem BN.inN{β:BK}{m:Nat}{F:Nat->Prop}{w:World}{k:Md}{o:Am}(hk:BN β m F w k o):F7 m o:=by
 cases o with
 |arr z rows=>
  simp only[BN]at hk;simp only[F7];rcases hk.2 with⟨_,rfl⟩|⟨b,c,e,fr,g1,g2,g3,g4,g5,g6⟩
  ·simp only[B9]
  ·exact BI.inN z rows _ _ g6
 |map es=>
  simp only[BN]at hk;obtain⟨b,fs,cl,g1,g2,g3⟩:=hk;simp only[F7];have: ∀ (es:List (Value × PV))(fs:List MapEntry),CO β m F w es fs->Bo m (es.map (·.2)):=by
   intro es
   induction es with
   |nil=>intro fs _;simp only[List.map_nil,Bo]
   |cons e es ih=>
    intro fs h;cases fs with
    |nil=>simp[CO]at h
    |cons f fs=>
     simp only[CO]at h;simp only[List.map_cons,Bo];exact⟨AA.inN _ _ h.1.2,ih fs h.2⟩
  exact this _ _ g3
 |Ih g lo hi=>simp only[F7]
end Go.AM
