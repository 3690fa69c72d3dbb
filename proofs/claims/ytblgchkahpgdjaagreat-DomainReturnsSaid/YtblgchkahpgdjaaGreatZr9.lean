/- What the claim rests on, part 9: the abstract machine, contracts of the functions, plain data. -/
import Derived.Test.YtblgchkahpgdjaaGreatRows
import Derived.Test.YtblgchkahpgdjaaGreatZr7
set_option linter.unusedVariables false
set_option linter.unusedSimpArgs false
set_option linter.unusedSectionVars false
namespace Go.AM
def II:Option Nat->Option Nat->Option Nat
 |none,b=>b
 |some a,none=>some a
 |some a,some b=>if a<=b then some a else some b
def CS(q:Option Nat)(h h':A0):Prop:=match q with
 |none=>h'=h
 |some m=>h.next<=h'.next/\ ∀ id,id<m->h'.obj id=h.obj id
theorem CS.trans{q q':Option Nat}{h h1 h':A0}(a:CS q h h1)(b:CS q' h1 h'):CS (II q q') h h':=by
 cases q with
 |none=>simp only[CS]at a;subst a;simpa only[II]using b
 |some m=>
  cases q' with
  |none=>simp only[CS]at b;subst b;simpa only[II]using a
  |some m'=>
   simp only[CS]at a b;simp only[II];split<;>simp only[CS]<;>refine⟨by omega,λid hid=>?_⟩
   ·rw [b.2 id (by omega),a.2 id hid]
   ·rw [b.2 id hid,a.2 id (by omega)]
def WC:PV->Nat
 | .ptr id _ _=>id
 |_=>0
def WD:PV->Nat
 | .mp id=>id
 |_=>0
def SF(n:Nat):PV->Nat
 | .own id _ _=>if id<=n then id else n
 |_=>n
def Py(op:Op)(ρ:Operand->PV)(h:A0):Nat:=match op with
 | .store _ a _=>WC (ρ a)
 | .mapUpdate _ x _ _=>WD (ρ x)
 | .call {callee:= .builtin .append,args:=args,.. }=>(match args.toList with
  |x::_=>SF h.next (ρ x)
  |[]=>0)
 |_=>h.next
theorem Lr{h:A0}{o:Ab}:CS (some h.next) h (h.new o):=by
 simp only[CS,R3];exact⟨by omega,λid hid=>by rw[Nj,A4 (by omega)]⟩
theorem Mp{h:A0}{i:Nat}{o:Ab}:CS (some i) h (h.set i o):=by
 simp only[CS,UE];exact⟨by omega,λid hid=>by rw[UD,A4 (by omega)]⟩
theorem SG{h:A0}{m:Nat}:CS (some m) h h:=⟨AD _,λ_ _=>rfl⟩
theorem iI{z bytes:Nat}{h h':A0}{x y v:PV}(ha:Jf z bytes h x y=some (v,h')):CS (some (SF h.next x)) h h':=by
 unfold Jf at ha;split at ha
 case isFalse=>simp at ha
 split at ha
 case h_2=>simp at ha
 rename_i nw h1 old hv ht;split at ha
 case isFalse=>simp at ha
 simp only[Ak,Ar]at ha;obtain⟨_,rfl⟩:=ha;unfold Dc at ht;split at ht
 ·simp only[Ak,Ar]at ht;obtain⟨rfl,rfl⟩:=ht;exact Lr
 ·simp only[Ak,Ar]at ht;obtain⟨rfl,rfl⟩:=ht;exact Lr
 ·split at ht
  case h_2=>simp at ht
  split at ht
  case isFalse=>simp at ht
  simp only[Ak,Ar]at ht;obtain⟨rfl,rfl⟩:=ht;simp only[CS,R3,PF,SF];refine⟨by omega,λid hid=>?_⟩;rw[Nj,PF];split at hid
  ·rw [A4 (by omega),Nk,A4 (by omega)]
  ·rw [A4 (by omega),Nk,A4 (by omega)]
 ·simp at ht
theorem iJ{h h':A0}{vc:List PV}{p:PV}(hw:wr h vc p=some h'):CS (some (WC p)) h h':=by
 cases p with
 |ptr id i f=>
  simp only[wr]at hw;split at hw
  ·split at hw
   ·split at hw
    ·simp at hw;subst hw;exact Mp
    ·simp at hw
   ·simp at hw
  ·simp at hw
 |_=>simp[wr]at hw
theorem iK{P:Program}{ow:Bool}{op:Op}{ρ:Operand->PV}{h h':A0}{v:PV}(he:AT P ow op ρ h=some (v,h')):CS (some (Py op ρ h)) h h':=by
  unfold AT at he;split at he;all_goals(repeat'(split at he))
  all_goals first
    |(simp[KJ,Dt]at he;done)
    |(simp only[Ak,Ar]at he;obtain⟨_,rfl⟩:=he;exact SG)
    |(simp only[Ak,Ar]at he;obtain⟨_,rfl⟩:=he;exact Lr)
    |(simp only[Dt,Ar]at he;obtain⟨_,_,_,rfl⟩:=he;exact SG)
    |(simp[KJ,Dt]at he;grind [SG,Lr,Mp])
    | (simp only [KJ] at he
       obtain⟨_,_,he⟩:=he
       (first
         | (split at he
            · simp only[Ak,Ar]at he;obtain⟨_,rfl⟩:=he;exact Lr
            · simp at he)
         | (obtain ⟨_, _, he⟩ := he
            split at he
            · simp only [KJ] at he;obtain⟨_,_,he⟩:=he;simp only[Ak,Ar]at he;obtain⟨_,rfl⟩:=he;exact Lr
            · simp at he)
         | (obtain ⟨_, _, _, _, _, _, he⟩ := he
            split at he
            · simp only[Ak,Ar]at he;obtain⟨_,rfl⟩:=he;exact Lr
            · simp at he)
         | (split at he
            · simp only [Dt, Ar] at he;obtain⟨_,hw,_,rfl⟩:=he;exact iJ hw
            · simp at he)))
    |skip
  · rename_i hid _ _ _ _;simp only[KJ]at he;obtain⟨_,_,he⟩:=he;split at he
    · simp only [Dt, Ar] at he;obtain⟨es',_,_,rfl⟩:=he;simp only[Py];simp only[*,WD];exact Mp
    · simp at he
  · rename_i hl htu;simp only[KJ]at he;obtain⟨_,_,he⟩:=he;have:=iI he;simp only[Py];simp only[*]
mutual
def JN(n:Nat):PV->Bool
 | .sc _=>true
 | .ptr id _ _=>decide (id<n)
 | .cptr cs=>IJ n cs
 | .own id _ _=>decide (id<n)
 | .imm _ rows=>OA n rows
 | .emp=>true
 | .mp id=>decide (id<n)
 | .agg cs=>IJ n cs
 | .tup cs=>IJ n cs
 | .fn _ a b=>IJ n a&&IJ n b
 | .ab _ _ _ _ _=>true
def IJ(n:Nat):List PV->Bool
 |[]=>true
 |p::ps=>JN n p&&IJ n ps
def OA(n:Nat):List (List PV)->Bool
 |[]=>true
 |r::rs=>IJ n r&&OA n rs
end
mutual
theorem iL{n:Nat}:(p:PV)->JN n p=true->BB n p
 | .sc _,_=>by simp only[BB]
 | .ptr _ _ _,h=>by simp only[JN,BP]at h;simpa only[BB]using h
 | .cptr cs,h=>by simp only[JN]at h;simp only[BB];exact JO cs h
 | .own _ _ _,h=>by simp only[JN,BP]at h;simpa only[BB]using h
 | .imm _ rows,h=>by simp only[JN]at h;simp only[BB];exact SH rows h
 | .emp,_=>by simp only[BB]
 | .mp _,h=>by simp only[JN,BP]at h;simpa only[BB]using h
 | .agg cs,h=>by simp only[JN]at h;simp only[BB];exact JO cs h
 | .tup cs,h=>by simp only[JN]at h;simp only[BB];exact JO cs h
 | .fn _ a b,h=>by simp only[JN,AR]at h;simp only[BB];exact⟨JO a h.1,JO b h.2⟩
 | .ab _ _ _ _ _,_=>by simp only[BB]
theorem JO{n:Nat}:(l:List PV)->IJ n l=true->BT n l
 |[],_=>by simp only[BT]
 |p::ps,h=>by simp only[IJ,AR]at h;simp only[BT];exact⟨iL p h.1,JO ps h.2⟩
theorem SH{n:Nat}:(l:List (List PV))->OA n l=true->B1 n l
 |[],_=>by simp only[B1]
 |p::ps,h=>by simp only[OA,AR]at h;simp only[B1];exact⟨JO p h.1,SH ps h.2⟩
end
mutual
def OB(h':A0)(n:Nat):Nat->PV->Option PV
 |0,_=>none
 |k+1,p=>match p with
  | .sc v=>some (.sc v)
  | .ptr id i f=>if id<n then some (.ptr id i f)else match h'.obj id with
   |some (.arr _ rows)=>(match rows[i]? with
    |some q=>(Jz h' n k (q.drop f)).map .cptr
    |none=>none)
   |_=>none
  | .own id off len=>if id<n then some (.own id off len)else match h'.obj id with
   |some (.arr z rows)=>if off+len<=rows.length then(Mq h' n k ((rows.drop off).take len)).map (.imm z)else none
   |_=>none
  | .imm z rows=>if OA n rows=true then some (.imm z rows)else none
  | .cptr cs=>if IJ n cs=true then some (.cptr cs)else none
  | .emp=>some .emp
  | .mp id=>if id<n then some (.mp id)else none
  | .agg cs=>(Jz h' n k cs).map .agg
  | .tup cs=>(Jz h' n k cs).map .tup
  | .fn f a b=>if(IJ n a&&IJ n b)=true then some (.fn f a b)else none
  | .ab k lo hi m r=>some (.ab k lo hi m r)
def Jz(h':A0)(n:Nat):Nat->List PV->Option (List PV)
 |0,_=>none
 |_+1,[]=>some []
 |k+1,p::ps=>match OB h' n k p with
  |some q=>(Jz h' n k ps).map (q::·)
  |none=>none
def Mq(h':A0)(n:Nat):Nat->List (List PV)->Option (List (List PV))
 |0,_=>none
 |_+1,[]=>some []
 |k+1,p::ps=>match Jz h' n k p with
  |some q=>(Mq h' n k ps).map (q::·)
  |none=>none
end
mutual
theorem WE{h':A0}{n:Nat}: ∀ (k:Nat)(p:PV){r:PV},OB h' n k p=some r->AF n h' r p
 |0,_,_,h=>by simp[OB]at h
 |k+1,p,r,h=>by
  unfold OB at h;split at h
  ·simp at h;subst h;simp only[AF]
  ·split at h
   ·rename_i hid;simp at h;subst h;simp only[AF];exact⟨trivial,hid⟩
   ·rename_i id i f hid;split at h
    ·rename_i z rows hob;split at h
     ·rename_i q hq;simp only[Dt]at h;obtain⟨cs,hc,rfl⟩:=h;simp only[AF];exact .inr ⟨id,i,f,z,rows,q,rfl,by omega,hob,hq,OC k _ hc⟩
     ·simp at h
    ·simp at h
  ·split at h
   ·rename_i hid;simp at h;subst h;simp only[AF];exact⟨trivial,hid⟩
   ·rename_i id off len hid;split at h
    ·rename_i z rows hob;split at h
     ·rename_i hle;simp only[Dt]at h;obtain⟨rs,hc,rfl⟩:=h;simp only[AF];exact .inr (.inr ⟨id,off,len,rows,rfl,by omega,hob,hle,WG k _ hc⟩)
     ·simp at h
    ·simp at h
  ·split at h
   ·rename_i hi;simp at h;subst h;simp only[AF];exact .inl ⟨trivial,SH _ hi⟩
   ·simp at h
  ·split at h
   ·rename_i hi;simp at h;subst h;simp only[AF];exact .inl ⟨trivial,JO _ hi⟩
   ·simp at h
  ·simp at h;subst h;simp only[AF]
  ·split at h
   ·rename_i hid;simp at h;subst h;simp only[AF];exact⟨trivial,hid⟩
   ·simp at h
  ·simp only[Dt]at h;obtain⟨cs,hc,rfl⟩:=h;simp only[AF];exact⟨_,rfl,OC k _ hc⟩
  ·simp only[Dt]at h;obtain⟨cs,hc,rfl⟩:=h;simp only[AF];exact⟨_,rfl,OC k _ hc⟩
  ·split at h
   ·rename_i hi;simp only[AR]at hi;simp at h;subst h;simp only[AF];exact⟨trivial,JO _ hi.1,JO _ hi.2⟩
   ·simp at h
  ·simp at h;subst h;simp only[AF]
theorem OC{h':A0}{n:Nat}: ∀ (k:Nat)(l:List PV){r:List PV},Jz h' n k l=some r->AL n h' r l
 |0,_,_,h=>by simp[Jz]at h
 |k+1,[],r,h=>by simp[Jz]at h;subst h;simp only[AL]
 |k+1,p::ps,r,h=>by
  unfold Jz at h;split at h
  ·rename_i q hq;simp only[Dt]at h;obtain⟨qs,hc,rfl⟩:=h;simp only[AL];exact⟨WE k p hq,OC k ps hc⟩
  ·simp at h
theorem WG{h':A0}{n:Nat}: ∀ (k:Nat)(l:List (List PV)){r:List (List PV)},Mq h' n k l=some r->Cr n h' r l
 |0,_,_,h=>by simp[Mq]at h
 |k+1,[],r,h=>by simp[Mq]at h;subst h;simp only[Cr]
 |k+1,p::ps,r,h=>by
  unfold Mq at h;split at h
  ·rename_i q hq;simp only[Dt]at h;obtain⟨qs,hc,rfl⟩:=h;simp only[Cr];exact⟨OC k p hq,WG k ps hc⟩
  ·simp at h
end
def WH(q:Option Nat)(n:Nat):Bool:=match q with
 |none=>true
 |some t=>decide (n<=t)
def SI:Option (Exit × A9 × Option Nat × A0)->Option (A9 × Option Nat × A0)
 |some (.normal,r)=>some r
 |some (.ret,r)=>some r
 |_=>none
theorem iM{x:Option (Exit × A9 × Option Nat × A0)}{r:A9 × Option Nat × A0}(h:SI x=some r): ∃ e,(e= .normal\/e= .ret)/\x=some (e,r):=by
 unfold SI at h;split at h
 ·simp at h;subst h;exact⟨_,.inl rfl,rfl⟩
 ·simp at h;subst h;exact⟨_,.inr rfl,rfl⟩
 ·simp at h
abbrev Ei:=FuncId->List PV->A0->Option (PV × Option Nat × A0)
section
variable (P:Program)(wf:FuncId->Bool)(own:FuncId->Nat->Bool)(Bb:FuncId->List PV->A0->Option PV)
def Km(call:Ei)(ow:Nat->Bool)(o:Oper)(ρ:Operand->PV)(h:A0):Option (PV × Option Nat × A0):=
 match callee ρ o.op with
 |some (f,args)=>call f args h
 |none=>match AT P (o.dst.any ow) o.op ρ h with
  |some (v,h')=>some (v,(if B0 ow wf o=true then some (Py o.op ρ h)else none),h')
  |none=>none
def Ls(call:Ei)(ow:Nat->Bool)(o:Oper)(ρ:Operand->PV)(h:A0)(v:PV):Bool:=
 match Km P wf call ow o ρ h with
 |some (v',q,_)=>q.isNone&&Gc v' v
 |none=>false
def Mr(call:Ei)(ow:Nat->Bool)(n:Nat)(ops:List Oper):List Oper->A9->Option Nat->A0->Option (A9 × Option Nat × A0)
 |[],s,q,h=>some (s,q,h)
 | o :: rest, s, q, h => if o.dst.all (λd => decide (d < n)) = true then
   match CN ops s o with
   |none=>none
   |some false=>Mr call ow n ops rest (AZ s o.dst (.sc undef)) q h
   |some true=>match Km P wf call ow o (A5 s) h with
    |some (v,q',h')=>Mr call ow n ops rest (AZ s o.dst v) (II q q') h'
    |none=>none
  else none
def SJ(call:Ei)(ow:Nat->Bool)(id:Nat)(o:Oper)(ρ:Operand->PV)(h:A0):Option (PV × Option Nat × A0):=
 match o.op with
 | .alloc t=>match D4 P t with
  |some zs=>if 0<zs.length then some (.ptr id 0 0,some id,h.set id (.arr zs.length [zs.map .sc]))else none
  |none=>none
 |_=>Km P wf call ow o ρ h
def Lt(call:Ei)(ow:Nat->Bool)(n:Nat)(ops:List Oper):Nat->List Oper->List (Nat × Oper × A9 × PV)->List (Nat × A0)->A9->Option Nat->A0->Option (A9 × Option Nat × A0)
 |_,[],_,_,s,q,h=>some (s,q,h)
 | k, o :: rest, past, hist, s, q, h => if o.dst.all (λd => decide (d < n)) = true then
   match CN ops s o with
   |none=>none
   |some false=>Lt call ow n ops (k+1) rest past hist (AZ s o.dst (.sc undef)) q h
   |some true=>match Km P wf call ow o (A5 s) h with
    |none=>none
    |some (v,q',h')=>
     if B0 ow wf o=true then
      (if past.all (λx=>pre ops x.1 k||Ls P wf call ow x.2.1 (A5 x.2.2.1) h' x.2.2.2)=true then Lt call ow n ops (k+1) rest past ((k,h)::hist) (AZ s o.dst v) (II q q') h' else none)
     else if q'.isNone=true then
      (if hist.all (λx=>pre ops x.1 k||Ls P wf call ow o (A5 s) x.2 v)=true then Lt call ow n ops (k+1) rest ((k,o,s,v)::past) hist (AZ s o.dst v) q h else none)
     else none
  else none
def Lu(call:Ei)(ow:Nat->Bool)(n:Nat)(ops:List Oper)(base:Nat):Nat->List Oper->List (Nat × Oper × A9 × PV)->List (Nat × A0)->A9->Option Nat->A0->Option (A9 × Option Nat × A0)
 |_,[],_,_,s,q,h=>some (s,q,h)
 | k, o :: rest, past, hist, s, q, h => if o.dst.all (λd => decide (d < n)) = true then
   match CN ops s o with
   |none=>none
   |some false=>Lu call ow n ops base (k+1) rest past hist (AZ s o.dst (.sc undef)) q h
   |some true=>match SJ P wf call ow (base+k) o (A5 s) h with
    |none=>none
    |some (v,q',h')=>
     if B0 ow wf o=true then
      (if(past.all (λx=>pre ops x.1 k||Ls P wf call ow x.2.1 (A5 x.2.2.1) h' x.2.2.2)&&((List.range ops.length).all λf=>!(decide (k<f)&&FB ops f)||(h'.obj (base+f)).isNone))=true then Lu call ow n ops base (k+1) rest past ((k,h)::hist) (AZ s o.dst v) (II q q') h' else none)
     else if q'.isNone=true then
      (if hist.all (λx=>pre ops x.1 k||Ls P wf call ow o (A5 s) x.2 v)=true then Lu call ow n ops base (k+1) rest ((k,o,s,v)::past) hist (AZ s o.dst v) q h else none)
     else none
  else none
structure Rc where
 s:A9
 h:A0
 v:PV
 l:Option (Nat × Ab)
 b:Bool
def Ms(ops:List Oper)(x f:Nat):Bool:=!(x==f)&&!(pre ops x f)&&!(pre ops f x)
def Pz(ow:Nat->Bool)(ops:List Oper)(k:Nat):List Nat:=(List.range ops.length).filter λf=>decide (k<f)&&(ops[f]?).any (Bl ow)
def F4(ow:Nat->Bool)(ops:List Oper)(base k:Nat)(ls:List (Nat × Nat)):List Nat:=(ls.filterMap λp=>if Ms ops k p.1=true then some p.2 else none)++(Pz ow ops k).map (base+·)
def x4(call:Ei)(ow:Nat->Bool)(ops:List Oper)(base k:Nat)(ls:List (Nat × Nat))(o:Oper)(s:A9)(h:A0):Option (PV × Option Nat × A0 × Option (Nat × Ab)× Bool):=
 if B0 ow wf o=true then
  (if Bl ow o = true then (match ER P ow (base + k) o (A5 s) with
   |some (v,ob)=>some (v,some (base+k),h.set (base+k) ob,some (base+k,ob),false)
   |none=>none)
  else match o.op with
   | .store t x y=>(match A5 s x with
    | .ptr id _ _=>(match AT P (o.dst.any ow) (.store t x y) (A5 s) h with
     |some (v,h')=>(match h'.obj id with
      |some ob=>some (v,some id,h.set id ob,some (id,ob),false)
      |none=>none)
     |none=>none)
    |_=>none)
   |_=>(match Km P wf call ow o (A5 s) (Az h (F4 ow ops base k ls))with
    |some (v,q,h')=>if((F4 ow ops base k ls).all (λid=>(h'.obj id).isNone)&&(Pz ow ops k).all (λf=>(h.obj (base+f)).isNone))=true then some (v,q,CD h' h (F4 ow ops base k ls),none,true)else none
    |none=>none))
 else match Km P wf call ow o (A5 s) (Az h (F4 ow ops base k ls))with
  |some (v,q,_)=>if q.isNone=true then some (v,none,h,none,false)else none
  |none=>none
def Lv(k:Nat)(l:Option (Nat × Ab))(ls:List (Nat × Nat)):List (Nat × Nat):=match l with
 |some p=>(k,p.1)::ls
 |none=>ls
def Lw(call:Ei)(ow:Nat->Bool)(n:Nat)(ops:List Oper)(base:Nat):Nat->List Oper->List (Nat × Nat)->A9->Option Nat->A0->Option (List Rc × A9 × Option Nat × A0)
 |_,[],_,s,q,h=>some ([],s,q,h)
 | k, o :: rest, ls, s, q, h => if o.dst.all (λd => decide (d < n)) = true then
   match CN ops s o with
   |none=>none
   |some false=>(Lw call ow n ops base (k+1) rest ls (AZ s o.dst (.sc undef)) q h).map λr=>(⟨s,h,.emp,none,false⟩::r.1,r.2)
   |some true=>match x4 P wf call ow ops base k ls o s h with
    |none=>none
    |some (v,q',h',l,b)=>(Lw call ow n ops base (k+1) rest (Lv k l ls) (AZ s o.dst v) (II q q') h').map λr=>(⟨s,h,v,l,b⟩::r.1,r.2)
  else none
def gS(rs:List Rc)(sf:A9)(j:Nat):A9:=match rs[j]? with|some r=>r.s|none=>sf
def gH(rs:List Rc)(hf:A0)(j:Nat):A0:=match rs[j]? with|some r=>r.h|none=>hf
def gV(rs:List Rc)(j:Nat):PV:=match rs[j]? with|some r=>r.v|none=> .emp
def gL(rs:List Rc)(j:Nat):Option (Nat × Ab):=match rs[j]? with|some r=>r.l|none=>none
def gB(rs:List Rc)(j:Nat):Bool:=match rs[j]? with|some r=>r.b|none=>false
def JP(n:Nat)(p:Nat->Bool):Bool:=(List.range n).all p
def iN(ow:Nat->Bool)(ops:List Oper)(lt:Nat->Option (Nat × Ab))(br:Nat->Bool):Bool:=
 JP ops.length λj=>!(br j||(lt j).isSome)||JP j λi=>!(br i||(lt i).isSome)||pre ops i j||(match lt i,lt j with|some p,some q=>!(p.1==q.1)|_,_=>false)||(br i&&(lt j).isSome&&(ops[j]?).any (Bl ow))||((lt i).isSome&&br j&&(ops[i]?).any (Bl ow))
def iO(ow:Nat->Bool)(ops:List Oper)(base:Nat)(hk:Nat->A0)(lt:Nat->Option (Nat × Ab))(br:Nat->Bool):Bool:=
 JP ops.length λj=>(!(br j||(lt j).isSome))||JP ops.length λf=>!(decide (j<f)&&(ops[f]?).any (Bl ow))||(if br j=true then((hk (j+1)).obj (base+f)).isNone else match lt j with|some p=>!(base+f==p.1)|none=>true)
def WI(o:Oper):Bool:=match o.op with
 | .store _ _ _=>true
 |_=>false
def iP(br:Nat->Bool)(k:Nat):Nat:=Dg br k
def SK(ops:List Oper)(br:Nat->Bool)(x M:Nat):Bool:=(M==0||br (M-1))&&JP ops.length λb=>!(br b)||(if b<M then !(pre ops x b)else !(pre ops b x))
def iQ(ops:List Oper)(k:Nat):Bool:=JP ops.length λf=>!(decide (k<f)&&(ops[f]?).any WI&&Ms ops k f)
def iR(call:Ei)(ow:Nat->Bool)(ops:List Oper)(sk:Nat->A9)(hk:Nat->A0)(vk:Nat->PV)(lt:Nat->Option (Nat × Ab))(br:Nat->Bool):Bool:=
 JP ops.length λk=>match ops[k]? with
  |none=>true
  |some o=>B0 ow wf o||(match CN ops (sk k) o with
   |some true=>JP (ops.length+1) λM=>!(SK ops br k M)||((M==iP br k)&&iQ ops k)||Ls P wf call ow o (A5 (sk k)) (gx ops lt hk k M (kx ow ops lt k)) (vk k)
   |_=>true)
def SL(call:Ei)(ow:Nat->Bool)(n:Nat)(ops:List Oper)(base:Nat)(s:A9)(q:Option Nat)(h:A0):Option (A9 × Option Nat × A0):=
 match Lw P wf call ow n ops base 0 ops [] s q h with
 |none=>none
 |some (rs,sf,qf,hf)=>if(iN ow ops (gL rs) (gB rs)&&iO ow ops base (gH rs hf) (gL rs) (gB rs)&&iR P wf call ow ops (gS rs sf) (gH rs hf) (gV rs) (gL rs) (gB rs))=true then some (sf,qf,hf)else none
def Is(call:Ei)(ow:Nat->Bool)(n:Nat):Nat->Code->A9->Option Nat->A0->Option (Exit × A9 × Option Nat × A0)
 |0,_,_,_,_=>none
 |k+1,c,s,q,h=>match c with
  | .skip=>some (.normal,s,q,h)
  | .region _ ops true => if JB ow wf ops.toList = true then (Lt P wf call ow n ops.toList 0 ops.toList [] [] s q h).map (Exit.normal, ·)
    else if NS ow wf ops.toList=true then(Lu P wf call ow n ops.toList h.next 0 ops.toList [] [] s (II q (some h.next)) ⟨h.next+ops.toList.length,h.obj⟩).map (Exit.normal,·)
    else if LL ops.toList=true then(SL P wf call ow n ops.toList h.next s (II q (some h.next)) ⟨h.next+ops.toList.length,h.obj⟩).map (Exit.normal,·)else none
  | .region _ ops false=>(Mr P wf call ow n ops.toList ops.toList s q h).map (Exit.normal,·)
  | .seq a b=>match Is call ow n k a s q h with
   |some (.normal,s',q',h')=>Is call ow n k b s' q' h'
   |r=>r
  | .cond c x y=>match A5 s c with
   | .sc (.bool true)=>Is call ow n k x s q h
   | .sc (.bool false)=>Is call ow n k y s q h
   |_=>none
  | .block id c=>match Is call ow n k c s q h with
   |some (.exit id',s',q',h')=>some (if id'=id then .normal else .exit id',s',q',h')
   |r=>r
  | .loop c=>match Is call ow n k c s q h with
   |some (.normal,s',q',h')=>Is call ow n k (.loop c) s' q' h'
   |r=>r
  | .exit id=>some (.exit id,s,q,h)
  | .ret=>some (.ret,s,q,h)
  |_=>none
def OD(keep:FuncId->Bool)(m:Nat):Nat->Ei
  |0,_,_,_=>none
  |k+1,f,args,h=>match Bb f args h with
   |some r=>some (r,none,h)
   |none=>match P.funcs[f]? with
    |none=>none
    |some fn=>if Ai P f=true/\args.length<=fn.ntmps then match fn.body with
        |none=>none
        |some c=>match SI (Is P wf (OD keep m k) (own f) fn.ntmps m c (LM args) none h)with
          |some (s,q,h')=>match Gr P s h' fn.results.toList with
            |none=>none
            |some vs=>if(!(keep f)&&WH q h.next)=true then(match OB h' h.next 1000 (Fl vs)with
                |some r=>some (r,none,h)
                |none=>some (Fl vs,q,h'))else some (Fl vs,q,h')
          |none=>none
      else none
end
section
variable {P:Program}{wf:FuncId->Bool}{own:FuncId->Nat->Bool}
def SM(P:Program)(Bb:FuncId->List PV->A0->Option PV):Prop:= ∀ f args r h,Bb f args h=some r->A6 P f args h (λr' h'=>r'=r/\h'=h)
def Iu(P:Program)(call:Ei):Prop:= ∀ f args h v q h',call f args h=some (v,q,h')->A6 P f args h (λr h''=>r=v/\h''=h')/\CS q h h'
theorem Mt{call:Ei}(hk:Iu P call){ow:Nat->Bool}{o:Oper}{ρ:Operand->PV}{h h':A0}{v:PV}{q:Option Nat}(hx:Km P wf call ow o ρ h=some (v,q,h')):Af P ow o ρ h v h'/\CS q h h':=by
 unfold Km at hx;unfold Af;split at hx
 ·rename_i f args hc;rw[hc];exact hk _ _ _ _ _ _ hx
 ·rename_i hc;rw[hc];split at hx
  ·rename_i v1 h1 he;simp only[Ak,Ar]at hx;obtain⟨rfl,rfl,rfl⟩:=hx;refine⟨he,?_⟩;split
   ·exact iK he
   ·rename_i hw;exact ez (by simpa using hw) hc he
  ·simp at hx
theorem OE{call:Ei}(hk:Iu P call){ow:Nat->Bool}{o:Oper}{ρ:Operand->PV}{h:A0}{v:PV}(hx:Ls P wf call ow o ρ h v=true):Af P ow o ρ h v h:=by
 unfold Ls at hx;split at hx
 ·rename_i v' q h' hp;simp only[AR,Qg]at hx;obtain⟨rfl,hx⟩:=hx;obtain⟨h1,h2⟩:=Mt hk hp;simp only[CS]at h2;rw[h2,RS _ _ hx]at h1;exact h1
 ·simp at hx
theorem SN{call:Ei}(hk:Iu P call){ow:Nat->Bool}{n:Nat}{ops:List Oper}{K:A9->A0->Prop}: ∀ (l:List Oper){s s':A9}{q q':Option Nat}{h h':A0},Mr P wf call ow n ops l s q h=some (s',q',h')->
  (K s' h'->EH P ow n ops l K s h)/\(∀ h0,CS q h0 h->CS q' h0 h')
 |[],s,s',q,q',h,h',hx=>by
  simp only[Mr,Ak,Ar]at hx;obtain⟨rfl,rfl,rfl⟩:=hx;exact⟨λhK=>hK,λh0 hq=>hq⟩
 |o::rest,s,s',q,q',h,h',hx=>by
  unfold Mr at hx;split at hx
  ·rename_i hd;unfold EH;split at hx
   ·simp at hx
   ·rename_i hw;obtain⟨h1,h2⟩:=SN (K:=K) hk rest hx;rw[hw];exact⟨λhK=>⟨hd,by simpa using h1 hK⟩,h2⟩
   ·rename_i hw;split at hx
    ·rename_i v q1 h1 hp;obtain⟨d1,d2⟩:=Mt hk hp;obtain⟨g1,g2⟩:=SN (K:=K) hk rest hx;rw[hw];exact⟨λhK=>⟨hd,by simpa using d1.owp (g1 hK)⟩,λh0 hq=>g2 h0 (hq.trans d2)⟩
    ·simp at hx
  ·simp at hx
theorem Q0{call:Ei}(hk:Iu P call){ow:Nat->Bool}{n:Nat}{ops:List Oper}{K:A9->A0->Prop}: ∀ (l:List Oper)(k:Nat){past:List (Nat × Oper × A9 × PV)}{hist:List (Nat × A0)}{s s':A9}{q q':Option Nat}{h h':A0},Lt P wf call ow n ops k l past hist s q h=some (s',q',h')->
  (K s' h'->Do P ow wf n ops k l (past.map λx=>(x.1,λh2=>Af P ow x.2.1 (A5 x.2.2.1) h2 x.2.2.2 h2)) hist K s h)/\(∀ h0,CS q h0 h->CS q' h0 h')
 |[],k,past,hist,s,s',q,q',h,h',hx=>by
  simp only[Lt,Ak,Ar]at hx;obtain⟨rfl,rfl,rfl⟩:=hx;exact⟨λhK=>hK,λh0 hq=>hq⟩
 |o::rest,k,past,hist,s,s',q,q',h,h',hx=>by
  unfold Lt at hx;split at hx
  ·rename_i hd;unfold Do;split at hx
   ·simp at hx
   ·rename_i hw;obtain⟨h1,h2⟩:=Q0 (K:=K) hk rest (k+1) hx;rw[hw];exact⟨λhK=>⟨hd,by simpa using h1 hK⟩,h2⟩
   ·rename_i hw;split at hx
    ·simp at hx
    ·rename_i v q1 h1 hp;obtain⟨d1,d2⟩:=Mt hk hp;rw[hw];split at hx
     ·rename_i hiw;split at hx
      ·rename_i hpast;obtain⟨g1,g2⟩:=Q0 (K:=K) hk rest (k+1) hx;refine⟨λhK=>⟨hd,?_⟩,λh0 hq=>g2 h0 (hq.trans d2)⟩
       ·simp only[hiw,AH];refine⟨v,h1,d1,?_,g1 hK⟩;intro x hx1;obtain⟨y,hy,rfl⟩:=Er.1 hx1;have:=Bq.1 hpast y hy;simp only[DG]at this;exact this.imp id (λt=>OE hk t)
      ·simp at hx
     ·rename_i hiw;split at hx
      ·rename_i hq1;split at hx
       ·rename_i hhist;obtain⟨g1,g2⟩:=Q0 (K:=K) hk rest (k+1) hx;refine⟨λhK=>⟨hd,?_⟩,g2⟩;simp only[hiw,AH,BG,AP];have e1:h1=h:=(by rw[Qg]at hq1;subst hq1;exact d2);subst e1;refine⟨v,d1,?_,g1 hK⟩;intro x hx1;have:=Bq.1 hhist x hx1;simp only[DG]at this;exact this.imp id (λt=>OE hk t)
       ·simp at hx
      ·simp at hx
  ·simp at hx
theorem iS{call:Ei}(hk:Iu P call){ow:Nat->Bool}{id:Nat}{o:Oper}{ρ:Operand->PV}{h h':A0}{v:PV}{q:Option Nat}(hx:SJ P wf call ow id o ρ h=some (v,q,h')):Ha P ow id o ρ h v h'/\CS q h h':=by
 unfold SJ at hx;unfold Ha;split at hx
 ·rename_i t hop;simp only[hop];split at hx
  ·rename_i zs hz;split at hx
   ·rename_i hpos;simp only[Ak,Ar]at hx;obtain⟨rfl,rfl,rfl⟩:=hx;exact⟨⟨zs,hz,hpos,rfl,rfl⟩,Mp⟩
   ·simp at hx
  ·simp at hx
 ·rename_i hop;obtain⟨d1,d2⟩:=Mt hk hx;refine⟨?_,d2⟩;split
  ·rename_i t he;exact(hop t he).elim
  ·exact d1
theorem Q1{call:Ei}(hk:Iu P call){ow:Nat->Bool}{n base:Nat}{ops:List Oper}{K:A9->A0->Prop}: ∀ (l:List Oper)(k:Nat){past:List (Nat × Oper × A9 × PV)}{hist:List (Nat × A0)}{s s':A9}{q q':Option Nat}{h h':A0},Lu P wf call ow n ops base k l past hist s q h=some (s',q',h')->
  (K s' h'->FU P ow wf n ops base k l (past.map λx=>(x.1,λh2=>Af P ow x.2.1 (A5 x.2.2.1) h2 x.2.2.2 h2)) hist K s h)/\(∀ h0,CS q h0 h->CS q' h0 h')
 |[],k,past,hist,s,s',q,q',h,h',hx=>by
  simp only[Lu,Ak,Ar]at hx;obtain⟨rfl,rfl,rfl⟩:=hx;exact⟨λhK=>hK,λh0 hq=>hq⟩
 |o::rest,k,past,hist,s,s',q,q',h,h',hx=>by
  unfold Lu at hx;split at hx
  ·rename_i hd;unfold FU;split at hx
   ·simp at hx
   ·rename_i hw;obtain⟨h1,h2⟩:=Q1 (K:=K) hk rest (k+1) hx;rw[hw];exact⟨λhK=>⟨hd,by simpa using h1 hK⟩,h2⟩
   ·rename_i hw;split at hx
    ·simp at hx
    ·rename_i v q1 h1 hp;obtain⟨d1,d2⟩:=iS hk hp;rw[hw];split at hx
     ·rename_i hiw;split at hx
      ·rename_i hpn;simp only[AR]at hpn;obtain⟨hpast,hnone⟩:=hpn;obtain⟨g1,g2⟩:=Q1 (K:=K) hk rest (k+1) hx;refine⟨λhK=>⟨hd,?_⟩,λh0 hq=>g2 h0 (hq.trans d2)⟩
       ·simp only[hiw,AH];refine⟨v,h1,d1,λf hf ha=>?_,?_,g1 hK⟩
        ·have hfl:f<ops.length:=by
          unfold FB at ha;split at ha
          ·rename_i hq;exact(BC.1 hq).1
          ·simp at ha
         have:=Bq.1 hnone f (EY.2 hfl);simpa[hf,ha]using this
        intro x hx1;obtain⟨y,hy,rfl⟩:=Er.1 hx1;have:=Bq.1 hpast y hy;simp only[DG]at this;exact this.imp id (λt=>OE hk t)
      ·simp at hx
     ·rename_i hiw;split at hx
      ·rename_i hq1;split at hx
       ·rename_i hhist;obtain⟨g1,g2⟩:=Q1 (K:=K) hk rest (k+1) hx;refine⟨λhK=>⟨hd,?_⟩,g2⟩;simp only[hiw,AH,BG,AP];have e1:h1=h:=(by rw[Qg]at hq1;subst hq1;exact d2);subst e1;refine⟨v,(Qw (by simpa using hiw)).1 d1,?_,g1 hK⟩;intro x hx1;have:=Bq.1 hhist x hx1;simp only[DG]at this;exact this.imp id (λt=>OE hk t)
       ·simp at hx
      ·simp at hx
  ·simp at hx
theorem Ko{n:Nat}{p:Nat->Bool}:JP n p=true↔ ∀ i,i<n->p i=true:=by simp[JP]
structure S4(P:Program)(ow:Nat->Bool)(wf:FuncId->Bool)(n:Nat)(ops:List Oper)(base:Nat)(k:Nat)(o:Oper)(s s':A9)(h h':A0)(v:PV)(l:Option (Nat × Ab))(b:Bool)(ls:List (Nat × Nat)):Prop where
 dst:o.dst.all (λd=>decide (d<n))=true
 ok: ∃ w,CN ops s o=some w/\(w=false->s'=AZ s o.dst (.sc undef)/\h'=h/\l=none/\b=false)/\
  (w = true -> s' = AZ s o.dst v /\
   (B0 ow wf o=false->h'=h/\l=none/\b=false/\Af P ow o (A5 s) (Az h (F4 ow ops base k ls)) v (Az h (F4 ow ops base k ls)))/\
   (B0 ow wf o = true ->
    (b=true/\l=none/\ ∃ H',Af P ow o (A5 s) (Az h (F4 ow ops base k ls)) v H'/\(∀ id∈F4 ow ops base k ls,H'.obj id=none)/\h'=CD H' h (F4 ow ops base k ls)/\ ∀ f∈Pz ow ops k,h.obj (base+f)=none)\/
    (b=false/\Bl ow o=true/\ ∃ ob,l=some (base+k,ob)/\ER P ow (base+k) o (A5 s)=some (v,ob)/\h'=h.set (base+k) ob)\/
    (b=false/\ ∃ t x y id r f ob,o.op= .store t x y/\A5 s x= .ptr id r f/\l=some (id,ob)/\h'=h.set id ob/\AT P (o.dst.any ow) o.op (A5 s) h=some (v,h'))))
theorem iT{t:TypeId}{x y:Operand}{b:Bool}{ρ:Operand->PV}{H H':A0}{id r f:Nat}{ob:Ab}{v:PV}(hx:ρ x= .ptr id r f)(he:AT P b (.store t x y) ρ H=some (v,H'))(ho:H'.obj id=some ob):H'=H.set id ob:=by
 simp only[AT,KJ]at he;obtain⟨m,_,he⟩:=he;split at he
 ·simp only[Dt,Ar,hx,wr]at he;obtain⟨h2,hw,_,rfl⟩:=he;split at hw
  ·split at hw
   ·split at hw
    ·simp at hw;subst hw;simp[A0.set]at ho;rw[ho]
    ·simp at hw
   ·simp at hw
  ·simp at hw
 ·simp at he
theorem iU{q:Option Nat}{h H':A0}{l:List Nat}(hn: ∀ id∈l,H'.obj id=none)(ht:CS q (Az h l) H'):CS q h (CD H' h l):=by
 cases q with
 |none=>
  simp only[CS]at ht⊢;subst ht;exact U3
 |some m=>
  simp only[CS]at ht⊢;refine⟨ht.1,λid hid=>?_⟩;have h2:=ht.2 id hid;simp only[Az]at h2;simp only[CD];by_cases hc:id∈l
  ·have hc':l.contains id=true:=(by simpa using hc);cases ho:h.obj id with
   |none=>simp[hn id hc]
   |some o=>simp[hc]
  ·have hc':l.contains id=false:=(by simpa using hc);rw[A4 (by simp[hc])];rw[hc']at h2;simpa using h2
theorem iV{call:Ei}(hk:Iu P call){ow:Nat->Bool}{n:Nat}{ops:List Oper}{base k:Nat}{ls:List (Nat × Nat)}{o:Oper}{s:A9}{h h':A0}{v:PV}{q:Option Nat}{l:Option (Nat × Ab)}{b:Bool}(hd:o.dst.all (λd=>decide (d<n))=true)(hw:CN ops s o=some true)(hx:x4 P wf call ow ops base k ls o s h=some (v,q,h',l,b)):
  S4 P ow wf n ops base k o s (AZ s o.dst v) h h' v l b ls/\CS q h h':=by
 unfold x4 at hx;split at hx
 ·rename_i hiw;split at hx
  ·rename_i hA;split at hx
   ·rename_i v1 ob ha;simp only[Ak,Ar]at hx;obtain⟨rfl,rfl,rfl,rfl,rfl⟩:=hx;exact⟨⟨hd,true,hw,(λhc=>by cases hc),λ_=>⟨rfl,(λhc=>by rw[hiw]at hc;cases hc),λ_=> .inr (.inl ⟨rfl,hA,ob,rfl,ha,rfl⟩)⟩⟩,Mp⟩
   ·simp at hx
  ·split at hx
   ·rename_i t x y hop;split at hx
    ·rename_i id r f hp;split at hx
     ·rename_i v1 h1 he;split at hx
      ·rename_i ob hob;simp only[Ak,Ar]at hx;obtain⟨rfl,rfl,rfl,rfl,rfl⟩:=hx;have hs:=iT hp he hob;refine⟨⟨hd,true,hw,(λhc=>by cases hc),λ_=>⟨rfl,(λhc=>by rw[hiw]at hc;cases hc),λ_=> .inr (.inr ⟨rfl,t,x,y,id,r,f,ob,hop,hp,rfl,rfl,?_⟩)⟩⟩,Mp⟩;rw[hop,he,hs]
      ·simp at hx
     ·simp at hx
    ·simp at hx
   ·split at hx
    ·rename_i v1 q1 h1 hp;split at hx
     ·rename_i hno;simp only[AR,Bq,Qg]at hno;simp only[Ak,Ar]at hx;obtain⟨rfl,rfl,rfl,rfl,rfl⟩:=hx;obtain⟨d1,d2⟩:=Mt hk hp;exact⟨⟨hd,true,hw,(λhc=>by cases hc),λ_=>⟨rfl,(λhc=>by rw[hiw]at hc;cases hc),λ_=> .inl ⟨rfl,rfl,h1,d1,hno.1,rfl,hno.2⟩⟩⟩,iU hno.1 d2⟩
     ·simp at hx
    ·simp at hx
 ·rename_i hiw;split at hx
  ·rename_i v1 q1 h1 hp;split at hx
   ·rename_i hq;simp only[Ak,Ar]at hx;obtain⟨rfl,rfl,rfl,rfl,rfl⟩:=hx;obtain⟨d1,d2⟩:=Mt hk hp;rw[Qg]at hq;subst hq;simp only[CS]at d2;subst d2;exact⟨⟨hd,true,hw,(λhc=>by cases hc),λ_=>⟨rfl,λ_=>⟨rfl,rfl,rfl,d1⟩,λhc=>by rw[hc]at hiw;simp at hiw⟩⟩,rfl⟩
   ·simp at hx
  ·simp at hx
def Ej(rs:List Rc):Nat->List (Nat × Nat)->Nat->List (Nat × Nat)
 |_,ls,0=>ls
 |k,ls,i+1=>match rs with
  |r::rs=>Ej rs (k+1) (Lv k r.l ls) i
  |[]=>ls
theorem WJ: ∀ (rs:List Rc)(k:Nat)(ls:List (Nat × Nat))(i f:Nat)(q:Nat × Ab),i<=rs.length->f<i->gL rs f=some q->(k+f,q.1)∈Ej rs k ls i:=by
 have keep: ∀ (rs:List Rc)(k:Nat)(ls:List (Nat × Nat))(i:Nat)(x:Nat × Nat),x∈ls->x∈Ej rs k ls i:=by
  intro rs
  induction rs with
  |nil=>intro k ls i x hx;cases i<;>simpa only[Ej]using hx
  |cons r rs ih=>
   intro k ls i x hx;cases i with
   |zero=>simpa only[Ej]using hx
   |succ i=>
    simp only[Ej];refine ih _ _ _ _ ?_;unfold Lv;split
    ·simp [hx]
    ·exact hx
 intro rs
 induction rs with
 |nil=>intro k ls i f q h1 h2 _;simp at h1;omega
 |cons r rs ih=>
  intro k ls i f q h1 h2 h3;cases i with
  |zero=>omega
  |succ i=>
   simp only[Ej];cases f with
   |zero=>
    refine keep _ _ _ _ _ ?_;simp only[gL,NK]at h3;unfold Lv;rw[h3];simp
   |succ f=>
    have:=ih (k+1) (Lv k r.l ls) i f q (by simp at h1;omega) (by omega) (by simpa only[gL,KE]using h3);rw[show k+(f+1)=k+1+f by omega];exact this
theorem WK: ∀ (rs:List Rc)(k:Nat)(ls:List (Nat × Nat))(i:Nat)(x:Nat × Nat),x∈Ej rs k ls i->x∈ls\/ ∃ f q,f<i/\gL rs f=some q/\x=(k+f,q.1)
 |rs,k,ls,0,x,h=>by
  unfold Ej at h;exact .inl h
 |[],k,ls,i+1,x,h=>by
  simp only[Ej]at h;exact .inl h
 |r::rs,k,ls,i+1,x,h=>by
  simp only[Ej]at h;rcases WK rs (k+1) _ i x h with h1|⟨f,q,h1,h2,h3⟩
  ·unfold Lv at h1;cases hl:r.l with
   |none=>rw[hl]at h1;exact .inl h1
   |some p=>
    rw[hl]at h1;simp only[D7]at h1;rcases h1 with h1|h1
    ·exact .inr ⟨0,p,by omega,by simp only[gL,NK];exact hl,h1⟩
    ·exact .inl h1
  ·exact .inr ⟨f+1,q,by omega,by simpa only[gL,KE]using h2,by rw[h3];congr 1;omega⟩
theorem WL{call:Ei}(hk:Iu P call){ow:Nat->Bool}{n:Nat}{ops:List Oper}{base:Nat}: ∀ (l:List Oper)(k:Nat){ls:List (Nat × Nat)}{s sf:A9}{q qf:Option Nat}{h hf:A0}{rs:List Rc},Lw P wf call ow n ops base k l ls s q h=some (rs,sf,qf,hf)->
  rs.length=l.length/\gS rs sf 0=s/\gH rs hf 0=h/\(∀ h0,CS q h0 h->CS qf h0 hf)/\
   ∀ i o,l[i]? =some o->S4 P ow wf n ops base (k+i) o (gS rs sf i) (gS rs sf (i+1)) (gH rs hf i) (gH rs hf (i+1)) (gV rs i) (gL rs i) (gB rs i) (Ej rs k ls i)
 |[],k,ls,s,sf,q,qf,h,hf,rs,hx=>by
  simp only[Lw,Ak,Ar]at hx;obtain⟨rfl,rfl,rfl,rfl⟩:=hx;exact⟨rfl,rfl,rfl,λ_ hq=>hq,λi o ho=>by simp at ho⟩
 |o::rest,k,ls,s,sf,q,qf,h,hf,rs,hx=>by
  unfold Lw at hx;split at hx
  case isFalse=>simp at hx
  rename_i hd;have Ck: ∀ (v:PV)(q':Option Nat)(h':A0)(l:Option (Nat × Ab))(b:Bool)(s':A9)(rs':List Rc),rs=⟨s,h,v,l,b⟩::rs'->Lw P wf call ow n ops base (k+1) rest (Lv k l ls) s' (II q q') h'=some (rs',sf,qf,hf)->S4 P ow wf n ops base k o s s' h h' v l b ls->CS q' h h'->
    rs.length=(o::rest).length/\gS rs sf 0=s/\gH rs hf 0=h/\(∀ h0,CS q h0 h->CS qf h0 hf)/\
     ∀ i o',(o::rest)[i]? =some o'->S4 P ow wf n ops base (k+i) o' (gS rs sf i) (gS rs sf (i+1)) (gH rs hf i) (gH rs hf (i+1)) (gV rs i) (gL rs i) (gB rs i) (Ej rs k ls i):=by
   intro v q' h' l b s' rs' hrs hrec hS ht;obtain⟨g1,g2,g3,g4,g5⟩:=WL hk rest (k+1) hrec;subst hrs;refine⟨by simp[g1],rfl,rfl,λh0 hq=>g4 h0 (hq.trans ht),λi o' ho'=>?_⟩;cases i with
   |zero=>
    simp at ho';subst ho';have e1:gS (⟨s,h,v,l,b⟩::rs') sf (0+1)=s':=g2;have e2:gH (⟨s,h,v,l,b⟩::rs') hf (0+1)=h':=g3;rw[e1,e2];exact hS
   |succ i=>
    have:=g5 i o' (by simpa using ho');rw[show k+(i+1)=k+1+i by omega];exact this
  split at hx
  ·simp at hx
  ·rename_i hw;simp only[Dt]at hx;obtain⟨⟨rs',sf',qf',hf'⟩,hrec,he⟩:=hx;simp only[Ar]at he;obtain⟨h1,rfl,rfl,rfl⟩:=he;refine Ck .emp none h none false _ rs' h1.symm (by
    have:II q none=q:=(by cases q<;>rfl);rw[this];exact hrec) ⟨hd,false,hw,(λ_=>⟨rfl,rfl,rfl,rfl⟩),λhc=>by cases hc⟩ rfl
  ·rename_i hw;split at hx
   ·simp at hx
   ·rename_i v q' h' l b hx4;simp only[Dt]at hx;obtain⟨⟨rs',sf',qf',hf'⟩,hrec,he⟩:=hx;simp only[Ar]at he;obtain⟨h1,rfl,rfl,rfl⟩:=he;obtain⟨t1,t2⟩:=iV hk hd hw hx4;exact Ck v q' h' l b _ rs' h1.symm hrec t1 t2
theorem iW{call:Ei}(hk:Iu P call){ow:Nat->Bool}{n:Nat}{ops:List Oper}{s sf:A9}{q qf:Option Nat}{h hf:A0}(hpre: ∀ i j,j<ops.length->pre ops i j=true->i<j)(hx:SL P wf call ow n ops h.next s q ⟨h.next+ops.length,h.obj⟩=some (sf,qf,hf)):
  (∀ K:A9->A0->Prop,K sf hf-> ∃ sk hk vk lt br,sk 0=s/\hk 0=⟨h.next+ops.length,h.obj⟩/\K (sk ops.length) (hk ops.length)/\D9 P ow wf n ops h.next sk hk vk lt br)/\(∀ h0,CS q h0 ⟨h.next+ops.length,h.obj⟩->CS qf h0 hf):=by
 unfold SL at hx;split at hx
 ·simp at hx
 rename_i rs sf' qf' hf' hr;split at hx
 case isFalse=>simp at hx
 rename_i hc;simp only[Ak,Ar]at hx;obtain⟨rfl,rfl,rfl⟩:=hx;simp only[AR]at hc;obtain⟨⟨hww,hlate⟩,hquiet⟩:=hc;obtain⟨hlen,g2,g3,g4,g5⟩:=WL hk ops 0 hr;refine⟨λK hK=>⟨gS rs sf',gH rs hf',gV rs,gL rs,gB rs,g2,g3,?_,?_⟩,g4⟩
 ·have e1:gS rs sf' ops.length=sf':=by unfold gS;rw[TA (by omega)]
  have e2:gH rs hf' ops.length=hf':=by unfold gH;rw[TA (by omega)]
  rw[e1,e2];exact hK
 ·have late: ∀ j f o,j<ops.length->(gB rs j||(gL rs j).isSome)=true->j<f->ops[f]? =some o->Bl ow o=true->(if gB rs j=true then((gH rs hf' (j+1)).obj (h.next+f)).isNone else match gL rs j with|some p=>!(h.next+f==p.1)|none=>true)=true:=by
   intro j f o hj hb hjf ho ha;have h1:=Ko.1 hlate j hj;rw[hb]at h1;simp only[Ap,Fw]at h1;have h2:=Ko.1 h1 f (BC.1 ho).1;have h3:(decide (j<f)&&(ops[f]?).any (Bl ow))=true:=(by rw[ho];simp[hjf,ha]);rw[h3]at h2;simpa using h2
  have segA: ∀ (M d:Nat),M+d<=ops.length->(∀ j,M<=j->j<M+d->gB rs j=false)->gH rs hf' (M+d)=CZ (gL rs) (λf=>decide (M<=f)) (gH rs hf' M) (M+d):=by
   intro M d
   induction d with
   |zero=>
    intro _ _;have:=LU (lt:=gL rs) (p:=λf=>decide (M<=f)) (H:=gH rs hf' M) (m:=0) M (λf _ hf _=>by simp;omega);rw[Be]at this;rw[Fi,this];try rfl
   |succ d ih=>
    intro h1 h2;have ih:=ih (by omega) (λj a b=>h2 j a (by omega));have hS:=g5 (M+d) ops[M+d] (AU (by omega));have hb:=h2 (M+d) (by omega) (by omega);obtain⟨w,_,k1,k2⟩:=hS.ok;rw[show M+(d+1)=M+d+1 by omega,P9];have key:gH rs hf' (M+d+1)=match gL rs (M+d)with|some q=>(gH rs hf' (M+d)).set q.1 q.2|none=>gH rs hf' (M+d):=by
     cases w with
     |false=>rw[(k1 rfl).2.2.1];exact(k1 rfl).2.1
     |true=>
      cases hiw:B0 ow wf ops[M+d]with
      |false=>rw[((k2 rfl).2.1 hiw).2.1];exact((k2 rfl).2.1 hiw).1
      |true=>
       rcases(k2 rfl).2.2 hiw with k3|k3|k3
       ·rw [k3.1]at hb;simp at hb
       ·obtain ⟨_,_,ob,k4,_,k5⟩:=k3;rw[k4];simpa using k5
       ·obtain ⟨_,_,_,_,_,_,_,ob,_,_,k4,k5,_⟩:=k3;rw[k4];exact k5
    rw[key];cases hl:gL rs (M+d)with
    |none=>simp only;exact ih
    |some q=>simp only[show decide (M<=M+d)=true by simp,AH];rw[ih]
  have wwP: ∀ i j,i<j->j<ops.length->(gB rs i=true\/(gL rs i).isSome=true)->(gB rs j=true\/(gL rs j).isSome=true)->
    pre ops i j=true\/(∃ p q,gL rs i=some p/\gL rs j=some q/\p.1≠q.1)\/(gB rs i=true/\(gL rs j).isSome=true/\ ∃ o,ops[j]? =some o/\Bl ow o=true)\/((gL rs i).isSome=true/\gB rs j=true/\ ∃ o,ops[i]? =some o/\Bl ow o=true):=by
   intro i j hij hj hi hj2;have h1:=Ko.1 hww j hj;have hj3:(gB rs j||(gL rs j).isSome)=true:=(by simpa using hj2);have hi3:(gB rs i||(gL rs i).isSome)=true:=(by simpa using hi);rw[hj3]at h1;simp only[Ap,Fw]at h1;have h2:=Ko.1 h1 i hij;rw[hi3]at h2;simp only[Ap,Fw,DG]at h2;rcases h2 with((h2|h2)|h2)|h2
   ·exact .inl h2
   ·right;left;split at h2
    ·rename_i p q e1 e2;exact⟨p,q,e1,e2,by simpa using h2⟩
    ·simp at h2
   ·simp only[AR]at h2;refine .inr (.inr (.inl ⟨h2.1.1,h2.1.2,ops[j],AU hj,?_⟩));have:=h2.2;rw[AU hj]at this;simpa using this
   ·simp only[AR]at h2;refine .inr (.inr (.inr ⟨h2.1.1,h2.1.2,ops[i],AU (by omega),?_⟩));have:=h2.2;rw[AU (by omega)]at this;simpa using this
  have kxL: ∀ j,j<ops.length->(∀ f p,j<f->(hf:f<ops.length)->gL rs f=some p->Bl ow ops[f]=false->pre ops j f=true)-> ∀ id∈kx ow ops (gL rs) j,id∈F4 ow ops h.next j (Ej rs 0 [] j):=by
   intro j hjl hst id hid;obtain⟨f,p,m1,m2,m3,m4,m5,m6⟩:=U8 hid;unfold F4;rw[DY];rcases T8 f j with m7|m7|m7
   ·left;rw[KG];have:=WJ rs 0 [] j f p (by omega) m7 m5;rw[Be]at this;have hjf:pre ops j f=false:=by
     cases hpp:pre ops j f with
     |false=>rfl
     |true=>have:=hpre j f m1 hpp;omega
    exact⟨_,this,by simp[Ms,m2,m3,hjf,m6]⟩
   ·exact (m2 m7.symm).elim
   ·right;have hSf:=g5 f ops[f] (AU m1);rw[Be]at hSf;have fA:Bl ow ops[f]=true:=by
     cases hA:Bl ow ops[f]with
     |true=>rfl
     |false=>
      rcases m4 with m4|m4
      ·rw [hst f p m7 m1 m5 hA]at m4;simp at m4
      ·rw [hA]at m4;simp at m4
    obtain⟨wf',_,f1,f2⟩:=hSf.ok;cases wf' with
    |false=>rw[(f1 rfl).2.2.1]at m5;simp at m5
    |true=>
     cases hiwf:B0 ow wf ops[f]with
     |false=>rw[((f2 rfl).2.1 hiwf).2.1]at m5;simp at m5
     |true=>
      rcases(f2 rfl).2.2 hiwf with f3|f3|f3
      ·rw [f3.2.1]at m5;simp at m5
      ·obtain ⟨_,_,ob,f4,_⟩:=f3;rw[f4]at m5;simp at m5;rw[Er];refine⟨f,?_,by rw[← m6, ← m5]⟩;unfold Pz;rw[LB];exact⟨EY.2 m1,by rw[AU m1];simp[m7,fA]⟩
      ·obtain ⟨_,_,_,_,_,_,_,_,f4,_⟩:=f3;unfold Bl at fA;rw[f4]at fA;simp at fA
  refine⟨λj o ho=>?_,λi j hij hj hi hj2=>?_⟩
  ·have hS:=g5 j o ho;rw[Be]at hS;have hjl:j<ops.length:=(BC.1 ho).1;obtain⟨w,k0,k1,k2⟩:=hS.ok;refine⟨hS.dst,w,k0,k1,λhw=>?_⟩;obtain⟨k3,k4,k5⟩:=k2 hw;refine⟨k3,λhiw=>?_,λhiw=>?_⟩
   ·obtain ⟨t1,t2,t3,t4⟩:=k4 hiw;refine⟨t1,t2,t3,λM hM=>?_⟩;have hq:=Ko.1 hquiet j hjl;rw[ho]at hq;simp only[hiw,Fw]at hq;rw[hw]at k0;rw[k0]at hq;simp only at hq;have hq2:=Ko.1 hq M (by have:=hM.1;omega);have hcut:SK ops (gB rs) j M=true:=by
     unfold SK;simp only[AR,DG,Dv];refine⟨hM.2.2.2,Ko.2 λb hb=>?_⟩;cases hbb:gB rs b with
     |false=>rfl
     |true=>
      simp only[Ap,Fw];split
      ·rename_i hbm;rw[hM.2.1 b hbm hbb];try rfl
      ·rename_i hbm;rw[hM.2.2.1 b (by omega) hbb];try rfl
    rw[hcut]at hq2;simp only[Ap,Fw,DG]at hq2;rcases hq2 with hq2|hq2
    ·simp only[AR,Dv]at hq2;obtain⟨hMl,hns⟩:=hq2;refine⟨F4 ow ops h.next j (Ej rs 0 [] j),kxL j hjl (λf p m1 m2 m3 m4=>?_),?_⟩
     ·have hSf:=g5 f ops[f] (AU m2);obtain⟨wf',_,f1,f2⟩:=hSf.ok;cases wf' with
      |false=>rw[(f1 rfl).2.2.1]at m3;simp at m3
      |true=>
       cases hiwf:B0 ow wf ops[f]with
       |false=>rw[((f2 rfl).2.1 hiwf).2.1]at m3;simp at m3
       |true=>
        rcases(f2 rfl).2.2 hiwf with f3|f3|f3
        ·rw [f3.2.1]at m3;simp at m3
        ·obtain ⟨_,fA,_⟩:=f3;rw[fA]at m4;simp at m4
        ·obtain ⟨_,_,_,_,_,_,_,_,f4,_⟩:=f3;have:=Ko.1 hns f m2;rw[AU m2]at this;simp[m1,WI,f4,Ms,show ¬ j=f by omega]at this;cases hpp:pre ops f j with
         |true=>have:=hpre f j hjl hpp;omega
         |false=>exact this.resolve_right (by rw[hpp];simp)
     ·-- the heap at k, with what stands apart hidden
      have hMj:M<=j:=(by rw[hMl];exact(FW _ _).1);have hnb: ∀ b,M<=b->b<M+(j-M)->gB rs b=false:=by
       intro b b1 b2;have:=(FW (gB rs) j).2.2 b (by rw[hMl]at b1;exact b1) (by omega);simpa using this
      have hseg:=segA M (j-M) (by omega) hnb;rw[show M+(j-M)=j by omega]at hseg;have hgx:gx ops (gL rs) (gH rs hf') j M (F4 ow ops h.next j (Ej rs 0 [] j))=Az (gH rs hf' j) (F4 ow ops h.next j (Ej rs 0 [] j)):=by
       unfold gx;obtain⟨d,hdd⟩: ∃ d,ops.length=j+d:=⟨ops.length-j,by omega⟩;have h2:gH rs hf' j=CZ (gL rs) (λf=>decide (M<=f)&&decide (f<j)) (gH rs hf' M) ops.length:=by
        rw[hseg,hdd,LU d (λf a _ _=>by simp;omega)];exact LS _ λf hf _=>by simp[hf]
       rw[h2];refine PC _ λf p hf hl=>?_;by_cases hMf:M<=f
       ·simp only[hMf,Qa,B8];cases hp:pre ops f j with
        |true=>
         rcases CT f j with m7|m7
         ·left;simp[m7]
         ·right
          -- it stands behind and before: looked at as apart only when it is; else nothing is noted
          exact absurd hp (by
           have:=hpre f j hjl hp;omega)
        |false=>
         rcases CT f j with m7|m7
         ·right;unfold F4;rw[DY];left;rw[KG];have hm:=WJ rs 0 [] j f p (by omega) m7 hl;rw[Be]at hm;have hjf:pre ops j f=false:=by
           cases hpp:pre ops j f with
           |false=>rfl
           |true=>have:=hpre j f hf hpp;omega
          exact⟨_,hm,by simp[Ms,hp,hjf,show ¬ j=f by omega]⟩
         ·left;simp;omega
       ·left;simp[hMf]
      rw[hgx];exact t4
    ·exact ⟨kx ow ops (gL rs) j,λid hid=>hid,OE hk hq2⟩
   ·rcases k5 hiw with⟨t1,t2,H',t3,t4,t5,t6⟩|⟨t1,t2,t3⟩|⟨t1,t,x,y,id,r,f,ob,u1,u2,u3,u4,u5⟩
    ·have hkL: ∀ id∈kx ow ops (gL rs) j,id∈F4 ow ops h.next j (Ej rs 0 [] j):=kxL j hjl (λf p m1 m2 m3 m4=>by
      rcases wwP j f m1 m2 (.inl t1) (.inr (by rw[m3];try rfl))with h5|⟨_,_,h5,_⟩|⟨_,_,o2,h5,h6⟩|⟨h5,_⟩
      ·exact h5
      ·rw [t2]at h5;simp at h5
      ·rw [AU m2]at h5;simp at h5;rw[h5,h6]at m4;simp at m4
      ·rw [t2]at h5;simp at h5)
     have hLk: ∀ id∈F4 ow ops h.next j (Ej rs 0 [] j),id∈kx ow ops (gL rs) j\/(gH rs hf' j).obj id=none:=λid hid=>by
      unfold F4 at hid;rw[DY]at hid;rcases hid with hid|hid
      ·rw [KG]at hid;obtain⟨x,m1,m2⟩:=hid;rcases WK _ _ _ _ _ m1 with m3|⟨f,p,m3,m4,rfl⟩
       ·simp at m3
       ·left;split at m2
        ·rename_i hu;simp at m2;simp[Ms]at hu;rw[← m2];exact Ma (show f<ops.length by omega) hu.1.1 hu.2 (.inl hu.1.2) m4
        ·simp at m2
      ·rw [Er]at hid;obtain⟨f,m1,rfl⟩:=hid;exact .inr (t6 f m1)
     have eK:Az (gH rs hf' j) (kx ow ops (gL rs) j)=Az (gH rs hf' j) (F4 ow ops h.next j (Ej rs 0 [] j)):=Fo rfl λid=>by
      simp only[Az];by_cases m1:id∈kx ow ops (gL rs) j
      ·simp [m1,hkL id m1]
      ·by_cases m2:id∈F4 ow ops h.next j (Ej rs 0 [] j)
       ·have:=(hLk id m2).resolve_left m1;simp[m1,m2,this]
       ·simp [m1,m2]
     have eP:CD H' (gH rs hf' j) (kx ow ops (gL rs) j)=CD H' (gH rs hf' j) (F4 ow ops h.next j (Ej rs 0 [] j)):=Fo rfl λid=>by
      simp only[CD];by_cases m1:id∈kx ow ops (gL rs) j
      ·simp [m1,hkL id m1]
      ·by_cases m2:id∈F4 ow ops h.next j (Ej rs 0 [] j)
       ·have:=(hLk id m2).resolve_left m1;simp[m1,m2,this]
       ·simp [m1,m2]
     refine .inl ⟨t1,t2,⟨H',by rw[eK];exact t3,λid hid=>t4 id (hkL id hid),by rw[eP];exact t5⟩,λf q hjf hq ha=>?_⟩;have:=late j f q hjl (by simp[t1]) hjf hq ha;rw[AG t1]at this;simpa using this
    ·exact .inr (.inl ⟨t1,t2,t3⟩)
    ·refine .inr (.inr ⟨t1,t,x,y,id,r,f,ob,u1,u2,u3,u4,λf' q hjf hq ha=>?_,u5⟩);have:=late j f' q hjl (by simp[u3]) hjf hq ha;rw[A4 (by simp[t1]),u3]at this;simpa using this
  ·exact wwP i j hij hj hi hj2
theorem Iv{call:Ei}(hk:Iu P call){ow:Nat->Bool}{n:Nat}: ∀ (m:Nat)(c:Code){s s':A9}{q q':Option Nat}{h h':A0}{e:Exit},Is P wf call ow n m c s q h=some (e,s',q',h')->
  (∀ Q:BA,Q e s' h'->Ad P ow wf n c Q s h)/\(∀ h0,CS q h0 h->CS q' h0 h')
 |0,c,s,s',q,q',h,h',e,hx=>by simp[Is]at hx
 |m+1,c,s,s',q,q',h,h',e,hx=>by
  unfold Is at hx;split at hx
  ·simp only[Ak,Ar]at hx;obtain⟨rfl,rfl,rfl,rfl⟩:=hx;exact⟨λQ hQ=>by simpa only[Ad]using hQ,λh0 hq=>hq⟩
  ·rename_i id ops;split at hx
   ·rename_i hdo;simp only[Dt,Ar]at hx;obtain⟨⟨s1,q1,h1⟩,hx,rfl,rfl,rfl,rfl⟩:=hx;have:=λ(Q:BA)=>Q0 (K:=Q .normal) hk _ _ hx;exact⟨λQ hQ=>by simp only[Ad,AH];exact⟨_,_,.refl,.inl ⟨hdo,(this Q).1 hQ⟩⟩,(this (λ_ _ _=>True)).2⟩
   ·split at hx
    ·rename_i hdo;simp only[Dt,Ar]at hx;obtain⟨⟨s1,q1,h1⟩,hx,rfl,rfl,rfl,rfl⟩:=hx;have:=λ(Q:BA)=>Q1 (K:=Q .normal) hk _ _ hx;refine⟨λQ hQ=>by simp only[Ad,AH];exact⟨_,_,.refl,.inr (.inl ⟨hdo,(this Q).1 hQ⟩)⟩,λh0 hq=>(this (λ_ _ _=>True)).2 h0 (hq.trans ?_)⟩;exact⟨Oh _ _,λ_ _=>rfl⟩
    ·split at hx
     ·rename_i hdo;simp only[Dt,Ar]at hx;obtain⟨⟨s1,q1,h1⟩,hx,rfl,rfl,rfl,rfl⟩:=hx;obtain⟨t1,t2⟩:=iW hk (λi j hj hp=>Jn (HG.of hdo) j i hj hp) hx;refine⟨λQ hQ=>by simp only[Ad,AH];exact⟨_,_,.refl,.inr (.inr ⟨hdo,t1 (Q .normal) hQ⟩)⟩,λh0 hq=>t2 h0 (hq.trans ?_)⟩;exact⟨Oh _ _,λ_ _=>rfl⟩
     ·simp at hx
  ·rename_i id ops;simp only[Dt,Ar]at hx;obtain⟨⟨s1,q1,h1⟩,hx,rfl,rfl,rfl,rfl⟩:=hx;have:=λ(Q:BA)=>SN (K:=Q .normal) hk _ hx;exact⟨λQ hQ=>by simp only[Ad,BG,AP];exact⟨_,_,.refl,(this Q).1 hQ⟩,(this (λ_ _ _=>True)).2⟩
  ·rename_i a b;split at hx
   ·rename_i s1 q1 h1 ha;obtain⟨a1,a2⟩:=Iv hk m a ha;obtain⟨b1,b2⟩:=Iv hk m b hx;exact⟨λQ hQ=>by simp only[Ad];exact a1 _ (b1 Q hQ),λh0 hq=>b2 h0 (a2 h0 hq)⟩
   ·rename_i hne;obtain⟨a1,a2⟩:=Iv hk m a hx;refine⟨λQ hQ=>?_,a2⟩;simp only[Ad];refine a1 _ ?_;cases e<;>simp only[BA.seq]<;>first|exact hQ|exact(hne _ _ _ hx).elim
  ·rename_i c x y;split at hx
   ·rename_i hc;obtain⟨a1,a2⟩:=Iv hk m x hx;exact⟨λQ hQ=>by simp only[Ad,hc,AH];exact a1 Q hQ,a2⟩
   ·rename_i hc;obtain⟨a1,a2⟩:=Iv hk m y hx;exact⟨λQ hQ=>by simp only[Ad,hc,BG,AP];exact a1 Q hQ,a2⟩
   ·simp at hx
  ·rename_i id c;split at hx
   ·rename_i id' s1 q1 h1 ha;obtain⟨a1,a2⟩:=Iv hk m c ha;simp only[Ak,Ar]at hx;obtain⟨rfl,rfl,rfl,rfl⟩:=hx;refine⟨λQ hQ=>?_,a2⟩;simp only[Ad];refine a1 _ ?_;simp only[BA.block];split<;>rename_i hid<;>simpa only[hid,AH,AP]using hQ
   ·rename_i hne;obtain⟨a1,a2⟩:=Iv hk m c hx;refine⟨λQ hQ=>?_,a2⟩;simp only[Ad];refine a1 _ ?_;cases e<;>simp only[BA.block]<;>first|exact hQ|exact(hne _ _ _ _ hx).elim
  ·rename_i c;split at hx
   ·rename_i s1 q1 h1 ha;obtain⟨a1,a2⟩:=Iv hk m c ha;obtain⟨b1,b2⟩:=Iv hk m (.loop c) hx;refine⟨λQ hQ=>?_,λh0 hq=>b2 h0 (a2 h0 hq)⟩;have:=b1 Q hQ;simp only[Ad]at this⊢;obtain⟨j,hj⟩:=this;exact⟨j+1,a1 _ hj⟩
   ·rename_i hne;obtain⟨a1,a2⟩:=Iv hk m c hx;refine⟨λQ hQ=>?_,a2⟩;simp only[Ad];refine⟨1,a1 _ ?_⟩;cases e<;>simp only[BA.seq]<;>first|exact hQ|exact(hne _ _ _ hx).elim
  ·simp only[Ak,Ar]at hx;obtain⟨rfl,rfl,rfl,rfl⟩:=hx;exact⟨λQ hQ=>by simpa only[Ad]using hQ,λh0 hq=>hq⟩
  ·simp only[Ak,Ar]at hx;obtain⟨rfl,rfl,rfl,rfl⟩:=hx;exact⟨λQ hQ=>by simpa only[Ad]using hQ,λh0 hq=>hq⟩
  ·simp at hx
theorem WM(hm:P.follows .mixedOrders=true){Bb:FuncId->List PV->A0->Option PV}(hext:SM P Bb){keep:FuncId->Bool}{m:Nat}: ∀ k,Iu P (OD P wf own Bb keep m k)
 |0,f,args,h,v,q,h',hx=>by simp[OD]at hx
 |k+1,f,args,h,v,q,h',hx=>by
  unfold OD at hx;split at hx
  ·rename_i r hr;simp only[Ak,Ar]at hx;obtain⟨rfl,rfl,rfl⟩:=hx;exact⟨hext _ _ _ _ hr,rfl⟩
  split at hx
  ·simp at hx
  ·rename_i fn hf;split at hx
   case isFalse=>simp at hx
   rename_i hh;split at hx
   ·simp at hx
   ·rename_i c hb;split at hx
    case h_2=>simp at hx
    rename_i s q1 h1 hc;split at hx
    ·simp at hx
    ·rename_i vs hr;have main:A6 P f args h (λr h2=>r=Fl vs/\h2=h1)/\CS q1 h h1:=by
      obtain⟨e,he,hc⟩:=iM hc;obtain⟨a1,a2⟩:=Iv (WM hm hext k) m c hc;refine⟨Ni hm hf hb hh.1 hh.2 (a1 _ ?_),a2 h rfl⟩;rcases he with rfl|rfl<;>simp only[I5,hr]<;>exact⟨trivial,trivial⟩
     split at hx
     ·rename_i hkp;simp only[AR]at hkp;split at hx
      ·rename_i r hfr;simp only[Ak,Ar]at hx;obtain⟨rfl,rfl,rfl⟩:=hx;refine⟨Ig hh.1 λhwf=>A6.drop (main.1.mono ?_),rfl⟩;rintro r' h' ⟨rfl,rfl⟩;have hold: ∀ id,id<h.next->h'.obj id=h.obj id:=by
        intro id hid;have ht:=main.2;cases q1 with
        |none=>simp only[CS]at ht;rw[ht]
        |some t=>
         simp only[CS]at ht;have:=hkp.2;simp[WH]at this;exact ht.2 id (by omega)
       refine⟨r,h,⟨rfl,rfl⟩,WE _ _ hfr,AD _,λid o ho=>?_⟩;have hid:=hwf id (by rw[ho];try rfl);exact⟨by rw[hold id hid];exact ho,hid,.inl ho⟩
      ·simp only[Ak,Ar]at hx;obtain⟨rfl,rfl,rfl⟩:=hx;exact main
     ·simp only[Ak,Ar]at hx;obtain⟨rfl,rfl,rfl⟩:=hx;exact main
def WN(r:Option (PV × Option Nat × A0))(v:PV):Bool:=match r with
 |some (u,_,_)=>Gc u v
 |none=>false
theorem iX(hm:P.follows .mixedOrders=true){Bb:FuncId->List PV->A0->Option PV}(hext:SM P Bb){keep:FuncId->Bool}{m k:Nat}{f:FuncId}{args:List PV}{h:A0}{v:PV}(hx:WN (OD P wf own Bb keep m k f args h) v=true):A6 P f args h (λr _=>r=v):=by
 unfold WN at hx;split at hx
 ·rename_i u q h' hr;refine((WM hm hext k _ _ _ _ _ _ hr).1).mono (λr h'' hr=>?_);rw[hr.1,RS _ _ hx]
 ·simp at hx
end
end Go.AM
namespace Go.Proofs.YtblgchkahpgdjaaGreat
open Go.AM Go.Proofs.Tryz
set_option maxHeartbeats 2000000
set_option maxRecDepth 100000
def iY(f t:Nat):Bool:=([(161,5),(111,2),(112,2),(174,10),(144,13),(12,18),(12,27),(12,51),(12,72),(166,5),(17,7),(42,15),(45,11),(46,11),(51,13)]:List (Nat × Nat)).contains (f,t)
def iZ(f:Nat):Bool:=([41,43,100,144,107,51,45,46,97,42,61]:List Nat).contains f
def ia(f:FuncId)(args:List PV)(_:A0):Option PV:=Bb f args
theorem ib:SM prog ia:=λf args r h hr=>fB f args r h hr
theorem SO:A6 prog 11 [] A0.nil λr h'=>r= .sc (.bool true)/\h'=A0.nil:=by
 have h1:A6 prog 11 [] A0.nil λr _=>r= .sc (.bool true):=iX (wf:=iZ) (own:=iY) (keep:=λ_=>false) Ty.Ns ib (m:=2000) (k:=60) (by kernel_rfl);refine A6.drop (h1.mono ?_);rintro r h' rfl;refine⟨.sc (.bool true),A0.nil,⟨rfl,rfl⟩,?_,AD _,λid o ho=>by simp[A0.nil]at ho⟩;simp only[AF]
end Go.Proofs.YtblgchkahpgdjaaGreat
namespace Go.AM
open Go.ChangeShapes Go.WideShapes
open Go.Proofs.YtblgchkahpgdjaaGreat
mutual
def PV.bulk:PV->Nat
 | .sc (.string s)=>s.size+1
 | .imm _ rows=>PV.bulkR rows+1
 |_=>1
def PV.bulkL:List PV->Nat
 |[]=>0
 |p::ps=>p.bulk+PV.bulkL ps
def PV.bulkR:List (List PV)->Nat
 |[]=>0
 |r::rs=>PV.bulkL r+PV.bulkR rs
end
section
variable {H:Type}{enc:TypeId × Value->H}{P:Program}{w:World}{sp:Nat->Bool}{held:Bool}
end
end Go.AM
namespace Go.Proofs.YtblgchkahpgdjaaGreat
open Go.AM Go.Proofs.Tryz
set_option maxHeartbeats 1000000
set_option maxRecDepth 20000
def ig:List TypeId:=[33,3,9,31]
theorem ij:HM prog 33=[(0,3),(1,3),(2,3),(3,3),(4,9),(5,31)]:=by kernel_rfl
theorem im:Tryz.prog.cellsOf 9=1:=by kernel_rfl
theorem iq:Tryz.prog.cellsOf 3=1:=by kernel_rfl
theorem iu:Tryz.prog.cellsOf 31=1:=by kernel_rfl
theorem WO:Tryz.prog.cellsOf 33=6:=by kernel_rfl
theorem iw:Tryz.prog.bytesOf 33=72:=by kernel_rfl
theorem ix: ∀ (c:Nat){ps:List PV},DT prog c 33 ps-> ∃ x:Sx,x.ok/\ps=x.cells:=by
 have str: ∀ {c:Nat}{ps:List PV},DT prog c 9 ps-> ∃ s:ByteArray,s.size<=AJ/\ps=[A2 s]:=by
  intro c ps h;cases c with
  |zero=>simp[DT]at h
  |succ c=>
   unfold DT at h;rw[Tryz.underlying9]at h;obtain⟨s,h1,h2⟩:=h;exact⟨s,by unfold reachBytes at h1;unfold AJ;omega,h2⟩
 have int: ∀ {c:Nat}{ps:List PV},DT prog c 3 ps-> ∃ n:Int,(-9223372036854775808<=n/\n<=9223372036854775807)/\ps=[.sc (.int .i64 n)]:=by
  intro c ps h;cases c with
  |zero=>simp[DT]at h
  |succ c=>
   obtain⟨n,h1,h2⟩:=gJ Tryz.underlying3 h;exact⟨n,gN h1,h2⟩
 intro c
 induction c using Nat.strongRecOn with
 |_ c ih=>
  intro ps h;cases c with
  |zero=>simp[DT]at h
  |succ c=>
   obtain⟨h1,h2⟩:=gM Tryz.underlying33 h;rw[WO]at h1;rw[ij]at h2
   match ps,h1,h2 with
   |[p0,p1,p2,p3,p4,p5],_,h2=>
    have a0:=h2 (0,3) (by simp);have a1:=h2 (1,3) (by simp);have a2:=h2 (2,3) (by simp);have a3:=h2 (3,3) (by simp);have a4:=h2 (4,9) (by simp);have a5:=h2 (5,31) (by simp);simp only[im,iq,iu,CB,GW,LC,KL]at a0 a1 a2 a3 a4 a5;obtain⟨kind,hk,e0⟩:=int a0;obtain⟨value,hv,e1⟩:=int a1;obtain⟨line,_,e2⟩:=int a2;obtain⟨col,_,e3⟩:=int a3;obtain⟨text,ht,e4⟩:=str a4;cases c with
    |zero=>simp[DT]at a5
    |succ c=>
     obtain⟨rows,e5,h3,_,h4⟩:=gK Tryz.underlying31 a5;obtain⟨xs,rfl,h5⟩:=Vc (Q:=Sx.ok) (f:=Sx.cells) rows (λr hr=>ih c (by omega) (h4 r hr).2);rw[WO]at e5;simp at e0 e1 e2 e3 e4 e5;refine⟨.mk kind value line col text xs,?_,?_⟩
     ·simp only[Sx.ok];refine⟨hk,hv,ht,?_,Sx.oks_iff.2 h5⟩;rw[iw,E4]at h3;unfold reachBytes at h3;unfold AJ;omega
     ·simp only[Sx.cells,e0,e1,e2,e3,e4,e5,Sx.rows_map]
end Go.Proofs.YtblgchkahpgdjaaGreat
