/- What the claim rests on, part 3: the abstract machine, contracts of the functions, plain data. -/
import Derived.Test.YtjgkmmjnbcbmpaaGreatZn2
set_option linter.unusedVariables false
set_option linter.unusedSimpArgs false
set_option linter.unusedSectionVars false
namespace Go.AM
def mnO:Option Nat→Option Nat→Option Nat
 |none,b=>b
 |some a,none=>some a
 |some a,some b=>if a≤b then some a else some b
def Tch(q:Option Nat)(h h':Heap):Prop:=match q with
 |none=>h'=h
 |some m=>h.next≤h'.next∧ ∀ id,id<m→h'.obj id=h.obj id
theorem Tch.trans{q q':Option Nat}{h h1 h':Heap}(a:Tch q h h1)(b:Tch q' h1 h'):Tch (mnO q q') h h':=by
 cases q with
 |none=>simp only[Tch]at a;subst a;simpa only[mnO]using b
 |some m=>
  cases q' with
  |none=>simp only[Tch]at b;subst b;simpa only[mnO]using a
  |some m'=>
   simp only[Tch]at a b;simp only[mnO];split<;>simp only[Tch]<;>refine⟨by omega,fun id hid=>?_⟩
   ·rw [b.2 id (by omega),a.2 id hid]
   ·rw [b.2 id hid,a.2 id (by omega)]
def ptrOf:PV→Nat
 | .ptr id _ _=>id
 |_=>0
def mapOf:PV→Nat
 | .mp id=>id
 |_=>0
def ownOf(n:Nat):PV→Nat
 | .own id _ _=>if id≤n then id else n
 |_=>n
def tchO(op:Op)(ρ:Operand→PV)(h:Heap):Nat:=match op with
 | .store _ a _=>ptrOf (ρ a)
 | .mapUpdate _ x _ _=>mapOf (ρ x)
 | .call {callee:= .builtin .append,args:=args,.. }=>(match args.toList with
  |x::_=>ownOf h.next (ρ x)
  |[]=>0)
 | .call {callee:= .builtin .clear,args:=args,.. }=>(match args.toList with
  |x::_=>ownOf h.next (ρ x)
  |[]=>0)
 |_=>h.next
theorem tch_new{h:Heap}{o:AObj}:Tch (some h.next) h (h.new o):=by
 simp only[Tch,new_next];exact⟨by omega,fun id hid=>by rw[new_obj,if_neg (by omega)]⟩
theorem tch_set{h:Heap}{i:Nat}{o:AObj}:Tch (some i) h (h.set i o):=by
 simp only[Tch,set_next];exact⟨by omega,fun id hid=>by rw[set_obj,if_neg (by omega)]⟩
theorem tch_id{h:Heap}{m:Nat}:Tch (some m) h h:=⟨Nat.le_refl _,fun _ _=>rfl⟩
theorem app_tch{z bytes:Nat}{h h':Heap}{x y v:PV}(ha:app z bytes h x y=some (v,h')):Tch (some (ownOf h.next x)) h h':=by
 unfold app at ha;split at ha
 case isFalse=>simp at ha
 split at ha
 case h_2=>simp at ha
 rename_i nw h1 old hv ht;split at ha
 case isFalse=>simp at ha
 simp only[Option.some.injEq,Prod.mk.injEq]at ha;obtain⟨_,rfl⟩:=ha;unfold isTail at ht;split at ht
 ·simp only[Option.some.injEq,Prod.mk.injEq]at ht;obtain⟨rfl,rfl⟩:=ht;exact tch_new
 ·simp only[Option.some.injEq,Prod.mk.injEq]at ht;obtain⟨rfl,rfl⟩:=ht;exact tch_new
 ·split at ht
  case h_2=>simp at ht
  split at ht
  case isFalse=>simp at ht
  simp only[Option.some.injEq,Prod.mk.injEq]at ht;obtain⟨rfl,rfl⟩:=ht;simp only[Tch,new_next,kill_next,ownOf];refine⟨by omega,fun id hid=>?_⟩;rw[new_obj,kill_next];split at hid
  ·rw [if_neg (by omega),kill_obj,if_neg (by omega)]
  ·rw [if_neg (by omega),kill_obj,if_neg (by omega)]
 ·simp at ht
theorem wr_tch{h h':Heap}{vc:List PV}{p:PV}(hw:wr h vc p=some h'):Tch (some (ptrOf p)) h h':=by
 cases p with
 |ptr id i f=>
  simp only[wr]at hw;split at hw
  ·split at hw
   ·split at hw
    ·simp at hw;subst hw;exact tch_set
    ·simp at hw
   ·simp at hw
  ·simp at hw
 |_=>simp[wr]at hw
theorem clr_tch{z:Nat}{zr:List PV}{h h':Heap}{x:PV}(hc:clr h z zr x=some h'):Tch (some (ownOf h.next x)) h h':=by
 unfold clr at hc;split at hc
 ·split at hc
  case h_2=>simp at hc
  split at hc
  case isFalse=>simp at hc
  simp only[Option.some.injEq]at hc;subst hc;simp only[Tch,set_next,ownOf];refine⟨Nat.le_refl _,fun id hid=>?_⟩;rw[set_obj];split at hid
  ·rw [if_neg (by omega)]
  ·rw [if_neg (by omega)]
 ·simp only[Option.some.injEq]at hc;subst hc;exact tch_id
 ·simp only[Option.some.injEq]at hc;subst hc;exact tch_id
 ·simp at hc
theorem eff_tch{P:Program}{ow:Bool}{op:Op}{ρ:Operand→PV}{h h':Heap}{v:PV}(he:eff P ow op ρ h=some (v,h')):Tch (some (tchO op ρ h)) h h':=by
  unfold eff at he;split at he;all_goals(repeat'(split at he))
  all_goals first
    |(simp[Option.bind_eq_some_iff,Option.map_eq_some_iff]at he;done)
    |(simp only[Option.some.injEq,Prod.mk.injEq]at he;obtain⟨_,rfl⟩:=he;exact tch_id)
    |(simp only[Option.some.injEq,Prod.mk.injEq]at he;obtain⟨_,rfl⟩:=he;exact tch_new)
    |(simp only[Option.map_eq_some_iff,Prod.mk.injEq]at he;obtain⟨_,_,_,rfl⟩:=he;exact tch_id)
    |(simp[Option.bind_eq_some_iff,Option.map_eq_some_iff]at he;grind [tch_id,tch_new,tch_set])
    | (simp only [Option.bind_eq_some_iff] at he
       obtain⟨_,_,he⟩:=he
       (first
         | (split at he
            · simp only[Option.some.injEq,Prod.mk.injEq]at he;obtain⟨_,rfl⟩:=he;exact tch_new
            · simp at he)
         | (obtain ⟨_, _, he⟩ := he
            split at he
            · simp only [Option.bind_eq_some_iff] at he;obtain⟨_,_,he⟩:=he;simp only[Option.some.injEq,Prod.mk.injEq]at he;obtain⟨_,rfl⟩:=he;exact tch_new
            · simp at he)
         | (obtain ⟨_, _, _, _, _, _, he⟩ := he
            split at he
            · simp only[Option.some.injEq,Prod.mk.injEq]at he;obtain⟨_,rfl⟩:=he;exact tch_new
            · simp at he)
         | (split at he
            · simp only [Option.map_eq_some_iff, Prod.mk.injEq] at he;obtain⟨_,hw,_,rfl⟩:=he;exact wr_tch hw
            · simp at he)))
    |skip
  · rename_i hid _ _ _ _;simp only[Option.bind_eq_some_iff]at he;obtain⟨_,_,he⟩:=he;split at he
    · simp only [Option.map_eq_some_iff, Prod.mk.injEq] at he;obtain⟨es',_,_,rfl⟩:=he;simp only[tchO];simp only[*,mapOf];exact tch_set
    · simp at he
  · rename_i hl htu;simp only[Option.bind_eq_some_iff]at he;obtain⟨_,_,he⟩:=he;have:=app_tch he;simp only[tchO];simp only[*]
  · simp only [Option.bind_eq_some_iff] at he;obtain⟨_,_,_,_,he⟩:=he;split at he
    case isFalse=>simp at he
    simp only[Option.map_eq_some_iff,Prod.mk.injEq]at he;obtain⟨_,hc,_,rfl⟩:=he;have:=clr_tch hc;simp only[tchO];simp only[*]
mutual
def inNb(n:Nat):PV→Bool
 | .sc _=>true
 | .ptr id _ _=>decide (id<n)
 | .cptr cs=>inNLb n cs
 | .own id _ _=>decide (id<n)
 | .imm _ rows=>inNRb n rows
 | .emp=>true
 | .mp id=>decide (id<n)
 | .agg cs=>inNLb n cs
 | .tup cs=>inNLb n cs
 | .fn _ a b=>inNLb n a&&inNLb n b
 | .ab _ _ _ _ _=>true
 | .lin _ _ _ _=>true
def inNLb(n:Nat):List PV→Bool
 |[]=>true
 |p::ps=>inNb n p&&inNLb n ps
def inNRb(n:Nat):List (List PV)→Bool
 |[]=>true
 |r::rs=>inNLb n r&&inNRb n rs
end
mutual
theorem inNb_ok{n:Nat}:(p:PV)→inNb n p=true→inN n p
 | .sc _,_=>by simp only[inN]
 | .ptr _ _ _,h=>by simp only[inNb,decide_eq_true_eq]at h;simpa only[inN]using h
 | .cptr cs,h=>by simp only[inNb]at h;simp only[inN];exact inNLb_ok cs h
 | .own _ _ _,h=>by simp only[inNb,decide_eq_true_eq]at h;simpa only[inN]using h
 | .imm _ rows,h=>by simp only[inNb]at h;simp only[inN];exact inNRb_ok rows h
 | .emp,_=>by simp only[inN]
 | .mp _,h=>by simp only[inNb,decide_eq_true_eq]at h;simpa only[inN]using h
 | .agg cs,h=>by simp only[inNb]at h;simp only[inN];exact inNLb_ok cs h
 | .tup cs,h=>by simp only[inNb]at h;simp only[inN];exact inNLb_ok cs h
 | .fn _ a b,h=>by simp only[inNb,Bool.and_eq_true]at h;simp only[inN];exact⟨inNLb_ok a h.1,inNLb_ok b h.2⟩
 | .ab _ _ _ _ _,_=>by simp only[inN]
 | .lin _ _ _ _,_=>by simp only[inN]
theorem inNLb_ok{n:Nat}:(l:List PV)→inNLb n l=true→inNL n l
 |[],_=>by simp only[inNL]
 |p::ps,h=>by simp only[inNLb,Bool.and_eq_true]at h;simp only[inNL];exact⟨inNb_ok p h.1,inNLb_ok ps h.2⟩
theorem inNRb_ok{n:Nat}:(l:List (List PV))→inNRb n l=true→inNR n l
 |[],_=>by simp only[inNR]
 |p::ps,h=>by simp only[inNRb,Bool.and_eq_true]at h;simp only[inNR];exact⟨inNLb_ok p h.1,inNRb_ok ps h.2⟩
end
mutual
def frzP(h':Heap)(n:Nat):Nat→PV→Option PV
 |0,_=>none
 |k+1,p=>match p with
  | .sc v=>some (.sc v)
  | .ptr id i f=>if id<n then some (.ptr id i f)else match h'.obj id with
   |some (.arr _ rows)=>(match rows[i]? with
    |some q=>(frzL h' n k (q.drop f)).map .cptr
    |none=>none)
   |_=>none
  | .own id off len=>if id<n then some (.own id off len)else match h'.obj id with
   |some (.arr z rows)=>if off+len≤rows.length then(frzR h' n k ((rows.drop off).take len)).map (.imm z)else none
   |_=>none
  | .imm z rows=>if inNRb n rows=true then some (.imm z rows)else none
  | .cptr cs=>if inNLb n cs=true then some (.cptr cs)else none
  | .emp=>some .emp
  | .mp id=>if id<n then some (.mp id)else none
  | .agg cs=>(frzL h' n k cs).map .agg
  | .tup cs=>(frzL h' n k cs).map .tup
  | .fn f a b=>if(inNLb n a&&inNLb n b)=true then some (.fn f a b)else none
  | .ab k lo hi m r=>some (.ab k lo hi m r)
  | .lin a b lo hi=>some (.lin a b lo hi)
def frzL(h':Heap)(n:Nat):Nat→List PV→Option (List PV)
 |0,_=>none
 |_+1,[]=>some []
 |k+1,p::ps=>match frzP h' n k p with
  |some q=>(frzL h' n k ps).map (q::·)
  |none=>none
def frzR(h':Heap)(n:Nat):Nat→List (List PV)→Option (List (List PV))
 |0,_=>none
 |_+1,[]=>some []
 |k+1,p::ps=>match frzL h' n k p with
  |some q=>(frzR h' n k ps).map (q::·)
  |none=>none
end
mutual
theorem frzP_ok{h':Heap}{n:Nat}: ∀ (k:Nat)(p:PV){r:PV},frzP h' n k p=some r→FrzTo n h' r p
 |0,_,_,h=>by simp[frzP]at h
 |k+1,p,r,h=>by
  unfold frzP at h;split at h
  ·simp at h;subst h;simp only[FrzTo]
  ·split at h
   ·rename_i hid;simp at h;subst h;simp only[FrzTo];exact⟨trivial,hid⟩
   ·rename_i id i f hid;split at h
    ·rename_i z rows hob;split at h
     ·rename_i q hq;simp only[Option.map_eq_some_iff]at h;obtain⟨cs,hc,rfl⟩:=h;simp only[FrzTo];exact .inr ⟨id,i,f,z,rows,q,rfl,by omega,hob,hq,frzL_ok k _ hc⟩
     ·simp at h
    ·simp at h
  ·split at h
   ·rename_i hid;simp at h;subst h;simp only[FrzTo];exact⟨trivial,hid⟩
   ·rename_i id off len hid;split at h
    ·rename_i z rows hob;split at h
     ·rename_i hle;simp only[Option.map_eq_some_iff]at h;obtain⟨rs,hc,rfl⟩:=h;simp only[FrzTo];exact .inr (.inr ⟨id,off,len,rows,rfl,by omega,hob,hle,frzR_ok k _ hc⟩)
     ·simp at h
    ·simp at h
  ·split at h
   ·rename_i hi;simp at h;subst h;simp only[FrzTo];exact .inl ⟨trivial,inNRb_ok _ hi⟩
   ·simp at h
  ·split at h
   ·rename_i hi;simp at h;subst h;simp only[FrzTo];exact .inl ⟨trivial,inNLb_ok _ hi⟩
   ·simp at h
  ·simp at h;subst h;simp only[FrzTo]
  ·split at h
   ·rename_i hid;simp at h;subst h;simp only[FrzTo];exact⟨trivial,hid⟩
   ·simp at h
  ·simp only[Option.map_eq_some_iff]at h;obtain⟨cs,hc,rfl⟩:=h;simp only[FrzTo];exact⟨_,rfl,frzL_ok k _ hc⟩
  ·simp only[Option.map_eq_some_iff]at h;obtain⟨cs,hc,rfl⟩:=h;simp only[FrzTo];exact⟨_,rfl,frzL_ok k _ hc⟩
  ·split at h
   ·rename_i hi;simp only[Bool.and_eq_true]at hi;simp at h;subst h;simp only[FrzTo];exact⟨trivial,inNLb_ok _ hi.1,inNLb_ok _ hi.2⟩
   ·simp at h
  ·simp at h;subst h;simp only[FrzTo]
  ·simp at h;subst h;simp only[FrzTo]
theorem frzL_ok{h':Heap}{n:Nat}: ∀ (k:Nat)(l:List PV){r:List PV},frzL h' n k l=some r→FrzL n h' r l
 |0,_,_,h=>by simp[frzL]at h
 |k+1,[],r,h=>by simp[frzL]at h;subst h;simp only[FrzL]
 |k+1,p::ps,r,h=>by
  unfold frzL at h;split at h
  ·rename_i q hq;simp only[Option.map_eq_some_iff]at h;obtain⟨qs,hc,rfl⟩:=h;simp only[FrzL];exact⟨frzP_ok k p hq,frzL_ok k ps hc⟩
  ·simp at h
theorem frzR_ok{h':Heap}{n:Nat}: ∀ (k:Nat)(l:List (List PV)){r:List (List PV)},frzR h' n k l=some r→FrzR n h' r l
 |0,_,_,h=>by simp[frzR]at h
 |k+1,[],r,h=>by simp[frzR]at h;subst h;simp only[FrzR]
 |k+1,p::ps,r,h=>by
  unfold frzR at h;split at h
  ·rename_i q hq;simp only[Option.map_eq_some_iff]at h;obtain⟨qs,hc,rfl⟩:=h;simp only[FrzR];exact⟨frzL_ok k p hq,frzR_ok k ps hc⟩
  ·simp at h
end
def dropB(q:Option Nat)(n:Nat):Bool:=match q with
 |none=>true
 |some t=>decide (n≤t)
def endS:Option (Exit × Slots × Option Nat × Heap)→Option (Slots × Option Nat × Heap)
 |some (.normal,r)=>some r
 |some (.ret,r)=>some r
 |_=>none
theorem endS_some{x:Option (Exit × Slots × Option Nat × Heap)}{r:Slots × Option Nat × Heap}(h:endS x=some r): ∃ e,(e= .normal∨e= .ret)∧x=some (e,r):=by
 unfold endS at h;split at h
 ·simp at h;subst h;exact⟨_,.inl rfl,rfl⟩
 ·simp at h;subst h;exact⟨_,.inr rfl,rfl⟩
 ·simp at h
abbrev CallR2:=FuncId→List PV→Heap→Option (PV × Option Nat × Heap)
section
variable (P:Program)(wf:FuncId→Bool)(own:FuncId→Nat→Bool)(ext:FuncId→List PV→Heap→Option PV)
def xop2(call:CallR2)(ow:Nat→Bool)(o:Oper)(ρ:Operand→PV)(h:Heap):Option (PV × Option Nat × Heap):=
 match callee ρ o.op with
 |some (f,args)=>call f args h
 |none=>match eff P (o.dst.any ow) o.op ρ h with
  |some (v,h')=>some (v,(if isW ow wf o=true then some (tchO o.op ρ h)else none),h')
  |none=>none
def xagain2(call:CallR2)(ow:Nat→Bool)(o:Oper)(ρ:Operand→PV)(h:Heap)(v:PV):Bool:=
 match xop2 P wf call ow o ρ h with
 |some (v',q,_)=>q.isNone&&pvEq v' v
 |none=>false
def xl2(call:CallR2)(ow:Nat→Bool)(n:Nat)(ops:List Oper):List Oper→Slots→Option Nat→Heap→Option (Slots × Option Nat × Heap)
 |[],s,q,h=>some (s,q,h)
 | o :: rest, s, q, h => if o.dst.all (fun d => decide (d < n)) = true then
   match wantedB ops s o with
   |none=>none
   |some false=>xl2 call ow n ops rest (updO s o.dst (.sc undef)) q h
   |some true=>match xop2 P wf call ow o (pev s) h with
    |some (v,q',h')=>xl2 call ow n ops rest (updO s o.dst v) (mnO q q') h'
    |none=>none
  else none
def xopR(call:CallR2)(ow:Nat→Bool)(id:Nat)(o:Oper)(ρ:Operand→PV)(h:Heap):Option (PV × Option Nat × Heap):=
 match o.op with
 | .alloc t=>match zeroT P t with
  |some zs=>if 0<zs.length then some (.ptr id 0 0,some id,h.set id (.arr zs.length [zs.map .sc]))else none
  |none=>none
 |_=>xop2 P wf call ow o ρ h
def xd2(call:CallR2)(ow:Nat→Bool)(n:Nat)(ops:List Oper):Nat→List Oper→List (Nat × Oper × Slots × PV)→List (Nat × Heap)→Slots→Option Nat→Heap→Option (Slots × Option Nat × Heap)
 |_,[],_,_,s,q,h=>some (s,q,h)
 | k, o :: rest, past, hist, s, q, h => if o.dst.all (fun d => decide (d < n)) = true then
   match wantedB ops s o with
   |none=>none
   |some false=>xd2 call ow n ops (k+1) rest past hist (updO s o.dst (.sc undef)) q h
   |some true=>match xop2 P wf call ow o (pev s) h with
    |none=>none
    |some (v,q',h')=>
     if isW ow wf o=true then
      (if past.all (fun x=>pre ops x.1 k||xagain2 P wf call ow x.2.1 (pev x.2.2.1) h' x.2.2.2)=true then xd2 call ow n ops (k+1) rest past ((k,h)::hist) (updO s o.dst v) (mnO q q') h' else none)
     else if q'.isNone=true then
      (if hist.all (fun x=>pre ops x.1 k||xagain2 P wf call ow o (pev s) x.2 v)=true then xd2 call ow n ops (k+1) rest ((k,o,s,v)::past) hist (updO s o.dst v) q h else none)
     else none
  else none
def xd3(call:CallR2)(ow:Nat→Bool)(n:Nat)(ops:List Oper)(base:Nat):Nat→List Oper→List (Nat × Oper × Slots × PV)→List (Nat × Heap)→Slots→Option Nat→Heap→Option (Slots × Option Nat × Heap)
 |_,[],_,_,s,q,h=>some (s,q,h)
 | k, o :: rest, past, hist, s, q, h => if o.dst.all (fun d => decide (d < n)) = true then
   match wantedB ops s o with
   |none=>none
   |some false=>xd3 call ow n ops base (k+1) rest past hist (updO s o.dst (.sc undef)) q h
   |some true=>match xopR P wf call ow (base+k) o (pev s) h with
    |none=>none
    |some (v,q',h')=>
     if isW ow wf o=true then
      (if(past.all (fun x=>pre ops x.1 k||xagain2 P wf call ow x.2.1 (pev x.2.2.1) h' x.2.2.2)&&((List.range ops.length).all fun f=>!(decide (k<f)&&alB ops f)||(h'.obj (base+f)).isNone))=true then xd3 call ow n ops base (k+1) rest past ((k,h)::hist) (updO s o.dst v) (mnO q q') h' else none)
     else if q'.isNone=true then
      (if hist.all (fun x=>pre ops x.1 k||xagain2 P wf call ow o (pev s) x.2 v)=true then xd3 call ow n ops base (k+1) rest ((k,o,s,v)::past) hist (updO s o.dst v) q h else none)
     else none
  else none
structure Rc where
 s:Slots
 h:Heap
 v:PV
 l:Option (Nat × AObj)
 b:Bool
def unoB(ops:List Oper)(x f:Nat):Bool:=!(x==f)&&!(pre ops x f)&&!(pre ops f x)
def laterA(ow:Nat→Bool)(ops:List Oper)(k:Nat):List Nat:=(List.range ops.length).filter fun f=>decide (k<f)&&(ops[f]?).any (isA ow)
def killsAt(ow:Nat→Bool)(ops:List Oper)(base k:Nat)(ls:List (Nat × Nat)):List Nat:=(ls.filterMap fun p=>if unoB ops k p.1=true then some p.2 else none)++(laterA ow ops k).map (base+·)
def x4(call:CallR2)(ow:Nat→Bool)(ops:List Oper)(base k:Nat)(ls:List (Nat × Nat))(o:Oper)(s:Slots)(h:Heap):Option (PV × Option Nat × Heap × Option (Nat × AObj)× Bool):=
 if isW ow wf o=true then
  (if isA ow o = true then (match aop P ow (base + k) o (pev s) with
   |some (v,ob)=>some (v,some (base+k),h.set (base+k) ob,some (base+k,ob),false)
   |none=>none)
  else match o.op with
   | .store t x y=>(match pev s x with
    | .ptr id _ _=>(match eff P (o.dst.any ow) (.store t x y) (pev s) h with
     |some (v,h')=>(match h'.obj id with
      |some ob=>some (v,some id,h.set id ob,some (id,ob),false)
      |none=>none)
     |none=>none)
    |_=>none)
   |_=>(match xop2 P wf call ow o (pev s) (killL h (killsAt ow ops base k ls))with
    |some (v,q,h')=>if((killsAt ow ops base k ls).all (fun id=>(h'.obj id).isNone)&&(laterA ow ops k).all (fun f=>(h.obj (base+f)).isNone))=true then some (v,q,putL h' h (killsAt ow ops base k ls),none,true)else none
    |none=>none))
 else match xop2 P wf call ow o (pev s) (killL h (killsAt ow ops base k ls))with
  |some (v,q,_)=>if q.isNone=true then some (v,none,h,none,false)else none
  |none=>none
def addL(k:Nat)(l:Option (Nat × AObj))(ls:List (Nat × Nat)):List (Nat × Nat):=match l with
 |some p=>(k,p.1)::ls
 |none=>ls
def xr4(call:CallR2)(ow:Nat→Bool)(n:Nat)(ops:List Oper)(base:Nat):Nat→List Oper→List (Nat × Nat)→Slots→Option Nat→Heap→Option (List Rc × Slots × Option Nat × Heap)
 |_,[],_,s,q,h=>some ([],s,q,h)
 | k, o :: rest, ls, s, q, h => if o.dst.all (fun d => decide (d < n)) = true then
   match wantedB ops s o with
   |none=>none
   |some false=>(xr4 call ow n ops base (k+1) rest ls (updO s o.dst (.sc undef)) q h).map fun r=>(⟨s,h,.emp,none,false⟩::r.1,r.2)
   |some true=>match x4 P wf call ow ops base k ls o s h with
    |none=>none
    |some (v,q',h',l,b)=>(xr4 call ow n ops base (k+1) rest (addL k l ls) (updO s o.dst v) (mnO q q') h').map fun r=>(⟨s,h,v,l,b⟩::r.1,r.2)
  else none
def gS(rs:List Rc)(sf:Slots)(j:Nat):Slots:=match rs[j]? with|some r=>r.s|none=>sf
def gH(rs:List Rc)(hf:Heap)(j:Nat):Heap:=match rs[j]? with|some r=>r.h|none=>hf
def gV(rs:List Rc)(j:Nat):PV:=match rs[j]? with|some r=>r.v|none=> .emp
def gL(rs:List Rc)(j:Nat):Option (Nat × AObj):=match rs[j]? with|some r=>r.l|none=>none
def gB(rs:List Rc)(j:Nat):Bool:=match rs[j]? with|some r=>r.b|none=>false
def rng(n:Nat)(p:Nat→Bool):Bool:=(List.range n).all p
def wwB(ow:Nat→Bool)(ops:List Oper)(lt:Nat→Option (Nat × AObj))(br:Nat→Bool):Bool:=
 rng ops.length fun j=>!(br j||(lt j).isSome)||rng j fun i=>!(br i||(lt i).isSome)||pre ops i j||(match lt i,lt j with|some p,some q=>!(p.1==q.1)|_,_=>false)||(br i&&(lt j).isSome&&(ops[j]?).any (isA ow))||((lt i).isSome&&br j&&(ops[i]?).any (isA ow))
def lateB(ow:Nat→Bool)(ops:List Oper)(base:Nat)(hk:Nat→Heap)(lt:Nat→Option (Nat × AObj))(br:Nat→Bool):Bool:=
 rng ops.length fun j=>(!(br j||(lt j).isSome))||rng ops.length fun f=>!(decide (j<f)&&(ops[f]?).any (isA ow))||(if br j=true then((hk (j+1)).obj (base+f)).isNone else match lt j with|some p=>!(base+f==p.1)|none=>true)
def isSt(o:Oper):Bool:=match o.op with
 | .store _ _ _=>true
 |_=>false
def lastBr(br:Nat→Bool)(k:Nat):Nat:=lastOf br k
def cutB(ops:List Oper)(br:Nat→Bool)(x M:Nat):Bool:=(M==0||br (M-1))&&rng ops.length fun b=>!(br b)||(if b<M then !(pre ops x b)else !(pre ops b x))
def noSt(ops:List Oper)(k:Nat):Bool:=rng ops.length fun f=>!(decide (k<f)&&(ops[f]?).any isSt&&unoB ops k f)
def quietB(call:CallR2)(ow:Nat→Bool)(ops:List Oper)(sk:Nat→Slots)(hk:Nat→Heap)(vk:Nat→PV)(lt:Nat→Option (Nat × AObj))(br:Nat→Bool):Bool:=
 rng ops.length fun k=>match ops[k]? with
  |none=>true
  |some o=>isW ow wf o||(match wantedB ops (sk k) o with
   |some true=>rng (ops.length+1) fun M=>!(cutB ops br k M)||((M==lastBr br k)&&noSt ops k)||xagain2 P wf call ow o (pev (sk k)) (gx ops lt hk k M (kx ow ops lt k)) (vk k)
   |_=>true)
def xd4(call:CallR2)(ow:Nat→Bool)(n:Nat)(ops:List Oper)(base:Nat)(s:Slots)(q:Option Nat)(h:Heap):Option (Slots × Option Nat × Heap):=
 match xr4 P wf call ow n ops base 0 ops [] s q h with
 |none=>none
 |some (rs,sf,qf,hf)=>if(wwB ow ops (gL rs) (gB rs)&&lateB ow ops base (gH rs hf) (gL rs) (gB rs)&&quietB P wf call ow ops (gS rs sf) (gH rs hf) (gV rs) (gL rs) (gB rs))=true then some (sf,qf,hf)else none
def xc2(call:CallR2)(ow:Nat→Bool)(n:Nat):Nat→Code→Slots→Option Nat→Heap→Option (Exit × Slots × Option Nat × Heap)
 |0,_,_,_,_=>none
 |k+1,c,s,q,h=>match c with
  | .skip=>some (.normal,s,q,h)
  | .region _ ops true => if dOk ow wf ops.toList = true then (xd2 P wf call ow n ops.toList 0 ops.toList [] [] s q h).map (Exit.normal, ·)
    else if dOk2 ow wf ops.toList=true then(xd3 P wf call ow n ops.toList h.next 0 ops.toList [] [] s (mnO q (some h.next)) ⟨h.next+ops.toList.length,h.obj⟩).map (Exit.normal,·)
    else if dOk3 ops.toList=true then(xd4 P wf call ow n ops.toList h.next s (mnO q (some h.next)) ⟨h.next+ops.toList.length,h.obj⟩).map (Exit.normal,·)else none
  | .region _ ops false=>(xl2 P wf call ow n ops.toList ops.toList s q h).map (Exit.normal,·)
  | .seq a b=>match xc2 call ow n k a s q h with
   |some (.normal,s',q',h')=>xc2 call ow n k b s' q' h'
   |r=>r
  | .cond c x y=>match pev s c with
   | .sc (.bool true)=>xc2 call ow n k x s q h
   | .sc (.bool false)=>xc2 call ow n k y s q h
   |_=>none
  | .block id c=>match xc2 call ow n k c s q h with
   |some (.exit id',s',q',h')=>some (if id'=id then .normal else .exit id',s',q',h')
   |r=>r
  | .loop c=>match xc2 call ow n k c s q h with
   |some (.normal,s',q',h')=>xc2 call ow n k (.loop c) s' q' h'
   |r=>r
  | .exit id=>some (.exit id,s,q,h)
  | .ret=>some (.ret,s,q,h)
  |_=>none
def xf2(keep:FuncId→Bool)(m:Nat):Nat→CallR2
  |0,_,_,_=>none
  |k+1,f,args,h=>match ext f args h with
   |some r=>some (r,none,h)
   |none=>match P.funcs[f]? with
    |none=>none
    |some fn=>if hasBody P f=true∧args.length≤fn.ntmps then match fn.body with
        |none=>none
        |some c=>match endS (xc2 P wf (xf2 keep m k) (own f) fn.ntmps m c (slots0 args) none h)with
          |some (s,q,h')=>match resAll P s h' fn.results.toList with
            |none=>none
            |some vs=>if(!(keep f)&&dropB q h.next)=true then(match frzP h' h.next 1000 (resV vs)with
                |some r=>some (r,none,h)
                |none=>some (resV vs,q,h'))else some (resV vs,q,h')
          |none=>none
      else none
end
section
variable {P:Program}{wf:FuncId→Bool}{own:FuncId→Nat→Bool}
def ExtOk2(P:Program)(ext:FuncId→List PV→Heap→Option PV):Prop:= ∀ f args r h,ext f args h=some r→PCall P f args h (fun r' h'=>r'=r∧h'=h)
def CallOk2(P:Program)(call:CallR2):Prop:= ∀ f args h v q h',call f args h=some (v,q,h')→PCall P f args h (fun r h''=>r=v∧h''=h')∧Tch q h h'
theorem xop_ok2{call:CallR2}(hk:CallOk2 P call){ow:Nat→Bool}{o:Oper}{ρ:Operand→PV}{h h':Heap}{v:PV}{q:Option Nat}(hx:xop2 P wf call ow o ρ h=some (v,q,h')):Does P ow o ρ h v h'∧Tch q h h':=by
 unfold xop2 at hx;unfold Does;split at hx
 ·rename_i f args hc;rw[hc];exact hk _ _ _ _ _ _ hx
 ·rename_i hc;rw[hc];split at hx
  ·rename_i v1 h1 he;simp only[Option.some.injEq,Prod.mk.injEq]at hx;obtain⟨rfl,rfl,rfl⟩:=hx;refine⟨he,?_⟩;split
   ·exact eff_tch he
   ·rename_i hw;exact eff_same (by simpa using hw) hc he
  ·simp at hx
theorem xagain_ok2{call:CallR2}(hk:CallOk2 P call){ow:Nat→Bool}{o:Oper}{ρ:Operand→PV}{h:Heap}{v:PV}(hx:xagain2 P wf call ow o ρ h v=true):Does P ow o ρ h v h:=by
 unfold xagain2 at hx;split at hx
 ·rename_i v' q h' hp;simp only[Bool.and_eq_true,Option.isNone_iff_eq_none]at hx;obtain⟨rfl,hx⟩:=hx;obtain⟨h1,h2⟩:=xop_ok2 hk hp;simp only[Tch]at h2;rw[h2,pvEq_eq _ _ hx]at h1;exact h1
 ·simp at hx
theorem xl_ok2{call:CallR2}(hk:CallOk2 P call){ow:Nat→Bool}{n:Nat}{ops:List Oper}{K:Slots→Heap→Prop}: ∀ (l:List Oper){s s':Slots}{q q':Option Nat}{h h':Heap},xl2 P wf call ow n ops l s q h=some (s',q',h')→
  (K s' h'→lwp P ow n ops l K s h)∧(∀ h0,Tch q h0 h→Tch q' h0 h')
 |[],s,s',q,q',h,h',hx=>by
  simp only[xl2,Option.some.injEq,Prod.mk.injEq]at hx;obtain⟨rfl,rfl,rfl⟩:=hx;exact⟨fun hK=>hK,fun h0 hq=>hq⟩
 |o::rest,s,s',q,q',h,h',hx=>by
  unfold xl2 at hx;split at hx
  ·rename_i hd;unfold lwp;split at hx
   ·simp at hx
   ·rename_i hw;obtain⟨h1,h2⟩:=xl_ok2 (K:=K) hk rest hx;rw[hw];exact⟨fun hK=>⟨hd,by simpa using h1 hK⟩,h2⟩
   ·rename_i hw;split at hx
    ·rename_i v q1 h1 hp;obtain⟨d1,d2⟩:=xop_ok2 hk hp;obtain⟨g1,g2⟩:=xl_ok2 (K:=K) hk rest hx;rw[hw];exact⟨fun hK=>⟨hd,by simpa using d1.owp (g1 hK)⟩,fun h0 hq=>g2 h0 (hq.trans d2)⟩
    ·simp at hx
  ·simp at hx
theorem xd_ok2{call:CallR2}(hk:CallOk2 P call){ow:Nat→Bool}{n:Nat}{ops:List Oper}{K:Slots→Heap→Prop}: ∀ (l:List Oper)(k:Nat){past:List (Nat × Oper × Slots × PV)}{hist:List (Nat × Heap)}{s s':Slots}{q q':Option Nat}{h h':Heap},xd2 P wf call ow n ops k l past hist s q h=some (s',q',h')→
  (K s' h'→drun P ow wf n ops k l (past.map fun x=>(x.1,fun h2=>Does P ow x.2.1 (pev x.2.2.1) h2 x.2.2.2 h2)) hist K s h)∧(∀ h0,Tch q h0 h→Tch q' h0 h')
 |[],k,past,hist,s,s',q,q',h,h',hx=>by
  simp only[xd2,Option.some.injEq,Prod.mk.injEq]at hx;obtain⟨rfl,rfl,rfl⟩:=hx;exact⟨fun hK=>hK,fun h0 hq=>hq⟩
 |o::rest,k,past,hist,s,s',q,q',h,h',hx=>by
  unfold xd2 at hx;split at hx
  ·rename_i hd;unfold drun;split at hx
   ·simp at hx
   ·rename_i hw;obtain⟨h1,h2⟩:=xd_ok2 (K:=K) hk rest (k+1) hx;rw[hw];exact⟨fun hK=>⟨hd,by simpa using h1 hK⟩,h2⟩
   ·rename_i hw;split at hx
    ·simp at hx
    ·rename_i v q1 h1 hp;obtain⟨d1,d2⟩:=xop_ok2 hk hp;rw[hw];split at hx
     ·rename_i hiw;split at hx
      ·rename_i hpast;obtain⟨g1,g2⟩:=xd_ok2 (K:=K) hk rest (k+1) hx;refine⟨fun hK=>⟨hd,?_⟩,fun h0 hq=>g2 h0 (hq.trans d2)⟩
       ·simp only[hiw,if_true];refine⟨v,h1,d1,?_,g1 hK⟩;intro x hx1;obtain⟨y,hy,rfl⟩:=List.mem_map.1 hx1;have:=List.all_eq_true.1 hpast y hy;simp only[Bool.or_eq_true]at this;exact this.imp id (fun t=>xagain_ok2 hk t)
      ·simp at hx
     ·rename_i hiw;split at hx
      ·rename_i hq1;split at hx
       ·rename_i hhist;obtain⟨g1,g2⟩:=xd_ok2 (K:=K) hk rest (k+1) hx;refine⟨fun hK=>⟨hd,?_⟩,g2⟩;simp only[hiw,if_true,Bool.false_eq_true,if_false];have e1:h1=h:=(by rw[Option.isNone_iff_eq_none]at hq1;subst hq1;exact d2);subst e1;refine⟨v,d1,?_,g1 hK⟩;intro x hx1;have:=List.all_eq_true.1 hhist x hx1;simp only[Bool.or_eq_true]at this;exact this.imp id (fun t=>xagain_ok2 hk t)
       ·simp at hx
      ·simp at hx
  ·simp at hx
theorem xopR_ok{call:CallR2}(hk:CallOk2 P call){ow:Nat→Bool}{id:Nat}{o:Oper}{ρ:Operand→PV}{h h':Heap}{v:PV}{q:Option Nat}(hx:xopR P wf call ow id o ρ h=some (v,q,h')):DoesR P ow id o ρ h v h'∧Tch q h h':=by
 unfold xopR at hx;unfold DoesR;split at hx
 ·rename_i t hop;simp only[hop];split at hx
  ·rename_i zs hz;split at hx
   ·rename_i hpos;simp only[Option.some.injEq,Prod.mk.injEq]at hx;obtain⟨rfl,rfl,rfl⟩:=hx;exact⟨⟨zs,hz,hpos,rfl,rfl⟩,tch_set⟩
   ·simp at hx
  ·simp at hx
 ·rename_i hop;obtain⟨d1,d2⟩:=xop_ok2 hk hx;refine⟨?_,d2⟩;split
  ·rename_i t he;exact(hop t he).elim
  ·exact d1
theorem xd_ok3{call:CallR2}(hk:CallOk2 P call){ow:Nat→Bool}{n base:Nat}{ops:List Oper}{K:Slots→Heap→Prop}: ∀ (l:List Oper)(k:Nat){past:List (Nat × Oper × Slots × PV)}{hist:List (Nat × Heap)}{s s':Slots}{q q':Option Nat}{h h':Heap},xd3 P wf call ow n ops base k l past hist s q h=some (s',q',h')→
  (K s' h'→drun2 P ow wf n ops base k l (past.map fun x=>(x.1,fun h2=>Does P ow x.2.1 (pev x.2.2.1) h2 x.2.2.2 h2)) hist K s h)∧(∀ h0,Tch q h0 h→Tch q' h0 h')
 |[],k,past,hist,s,s',q,q',h,h',hx=>by
  simp only[xd3,Option.some.injEq,Prod.mk.injEq]at hx;obtain⟨rfl,rfl,rfl⟩:=hx;exact⟨fun hK=>hK,fun h0 hq=>hq⟩
 |o::rest,k,past,hist,s,s',q,q',h,h',hx=>by
  unfold xd3 at hx;split at hx
  ·rename_i hd;unfold drun2;split at hx
   ·simp at hx
   ·rename_i hw;obtain⟨h1,h2⟩:=xd_ok3 (K:=K) hk rest (k+1) hx;rw[hw];exact⟨fun hK=>⟨hd,by simpa using h1 hK⟩,h2⟩
   ·rename_i hw;split at hx
    ·simp at hx
    ·rename_i v q1 h1 hp;obtain⟨d1,d2⟩:=xopR_ok hk hp;rw[hw];split at hx
     ·rename_i hiw;split at hx
      ·rename_i hpn;simp only[Bool.and_eq_true]at hpn;obtain⟨hpast,hnone⟩:=hpn;obtain⟨g1,g2⟩:=xd_ok3 (K:=K) hk rest (k+1) hx;refine⟨fun hK=>⟨hd,?_⟩,fun h0 hq=>g2 h0 (hq.trans d2)⟩
       ·simp only[hiw,if_true];refine⟨v,h1,d1,fun f hf ha=>?_,?_,g1 hK⟩
        ·have hfl:f<ops.length:=by
          unfold alB at ha;split at ha
          ·rename_i hq;exact(List.getElem?_eq_some_iff.1 hq).1
          ·simp at ha
         have:=List.all_eq_true.1 hnone f (List.mem_range.2 hfl);simpa[hf,ha]using this
        intro x hx1;obtain⟨y,hy,rfl⟩:=List.mem_map.1 hx1;have:=List.all_eq_true.1 hpast y hy;simp only[Bool.or_eq_true]at this;exact this.imp id (fun t=>xagain_ok2 hk t)
      ·simp at hx
     ·rename_i hiw;split at hx
      ·rename_i hq1;split at hx
       ·rename_i hhist;obtain⟨g1,g2⟩:=xd_ok3 (K:=K) hk rest (k+1) hx;refine⟨fun hK=>⟨hd,?_⟩,g2⟩;simp only[hiw,if_true,Bool.false_eq_true,if_false];have e1:h1=h:=(by rw[Option.isNone_iff_eq_none]at hq1;subst hq1;exact d2);subst e1;refine⟨v,(doesR_of (by simpa using hiw)).1 d1,?_,g1 hK⟩;intro x hx1;have:=List.all_eq_true.1 hhist x hx1;simp only[Bool.or_eq_true]at this;exact this.imp id (fun t=>xagain_ok2 hk t)
       ·simp at hx
      ·simp at hx
  ·simp at hx
theorem rng_iff{n:Nat}{p:Nat→Bool}:rng n p=true↔ ∀ i,i<n→p i=true:=by simp[rng]
structure S4(P:Program)(ow:Nat→Bool)(wf:FuncId→Bool)(n:Nat)(ops:List Oper)(base:Nat)(k:Nat)(o:Oper)(s s':Slots)(h h':Heap)(v:PV)(l:Option (Nat × AObj))(b:Bool)(ls:List (Nat × Nat)):Prop where
 dst:o.dst.all (fun d=>decide (d<n))=true
 ok: ∃ w,wantedB ops s o=some w∧(w=false→s'=updO s o.dst (.sc undef)∧h'=h∧l=none∧b=false)∧
  (w = true → s' = updO s o.dst v ∧
   (isW ow wf o=false→h'=h∧l=none∧b=false∧Does P ow o (pev s) (killL h (killsAt ow ops base k ls)) v (killL h (killsAt ow ops base k ls)))∧
   (isW ow wf o = true →
    (b=true∧l=none∧ ∃ H',Does P ow o (pev s) (killL h (killsAt ow ops base k ls)) v H'∧(∀ id∈killsAt ow ops base k ls,H'.obj id=none)∧h'=putL H' h (killsAt ow ops base k ls)∧ ∀ f∈laterA ow ops k,h.obj (base+f)=none)∨
    (b=false∧isA ow o=true∧ ∃ ob,l=some (base+k,ob)∧aop P ow (base+k) o (pev s)=some (v,ob)∧h'=h.set (base+k) ob)∨
    (b=false∧ ∃ t x y id r f ob,o.op= .store t x y∧pev s x= .ptr id r f∧l=some (id,ob)∧h'=h.set id ob∧eff P (o.dst.any ow) o.op (pev s) h=some (v,h'))))
theorem store_set{t:TypeId}{x y:Operand}{b:Bool}{ρ:Operand→PV}{H H':Heap}{id r f:Nat}{ob:AObj}{v:PV}(hx:ρ x= .ptr id r f)(he:eff P b (.store t x y) ρ H=some (v,H'))(ho:H'.obj id=some ob):H'=H.set id ob:=by
 simp only[eff,Option.bind_eq_some_iff]at he;obtain⟨m,_,he⟩:=he;split at he
 ·simp only[Option.map_eq_some_iff,Prod.mk.injEq,hx,wr]at he;obtain⟨h2,hw,_,rfl⟩:=he;split at hw
  ·split at hw
   ·split at hw
    ·simp at hw;subst hw;simp[Heap.set]at ho;rw[ho]
    ·simp at hw
   ·simp at hw
  ·simp at hw
 ·simp at he
theorem tch_put{q:Option Nat}{h H':Heap}{l:List Nat}(hn: ∀ id∈l,H'.obj id=none)(ht:Tch q (killL h l) H'):Tch q h (putL H' h l):=by
 cases q with
 |none=>
  simp only[Tch]at ht⊢;subst ht;exact putL_killL
 |some m=>
  simp only[Tch]at ht⊢;refine⟨ht.1,fun id hid=>?_⟩;have h2:=ht.2 id hid;simp only[killL]at h2;simp only[putL];by_cases hc:id∈l
  ·have hc':l.contains id=true:=(by simpa using hc);cases ho:h.obj id with
   |none=>simp[hn id hc]
   |some o=>simp[hc]
  ·have hc':l.contains id=false:=(by simpa using hc);rw[if_neg (by simp[hc])];rw[hc']at h2;simpa using h2
theorem x4_ok{call:CallR2}(hk:CallOk2 P call){ow:Nat→Bool}{n:Nat}{ops:List Oper}{base k:Nat}{ls:List (Nat × Nat)}{o:Oper}{s:Slots}{h h':Heap}{v:PV}{q:Option Nat}{l:Option (Nat × AObj)}{b:Bool}(hd:o.dst.all (fun d=>decide (d<n))=true)(hw:wantedB ops s o=some true)(hx:x4 P wf call ow ops base k ls o s h=some (v,q,h',l,b)):
  S4 P ow wf n ops base k o s (updO s o.dst v) h h' v l b ls∧Tch q h h':=by
 unfold x4 at hx;split at hx
 ·rename_i hiw;split at hx
  ·rename_i hA;split at hx
   ·rename_i v1 ob ha;simp only[Option.some.injEq,Prod.mk.injEq]at hx;obtain⟨rfl,rfl,rfl,rfl,rfl⟩:=hx;exact⟨⟨hd,true,hw,(fun hc=>by cases hc),fun _=>⟨rfl,(fun hc=>by rw[hiw]at hc;cases hc),fun _=> .inr (.inl ⟨rfl,hA,ob,rfl,ha,rfl⟩)⟩⟩,tch_set⟩
   ·simp at hx
  ·split at hx
   ·rename_i t x y hop;split at hx
    ·rename_i id r f hp;split at hx
     ·rename_i v1 h1 he;split at hx
      ·rename_i ob hob;simp only[Option.some.injEq,Prod.mk.injEq]at hx;obtain⟨rfl,rfl,rfl,rfl,rfl⟩:=hx;have hs:=store_set hp he hob;refine⟨⟨hd,true,hw,(fun hc=>by cases hc),fun _=>⟨rfl,(fun hc=>by rw[hiw]at hc;cases hc),fun _=> .inr (.inr ⟨rfl,t,x,y,id,r,f,ob,hop,hp,rfl,rfl,?_⟩)⟩⟩,tch_set⟩;rw[hop,he,hs]
      ·simp at hx
     ·simp at hx
    ·simp at hx
   ·split at hx
    ·rename_i v1 q1 h1 hp;split at hx
     ·rename_i hno;simp only[Bool.and_eq_true,List.all_eq_true,Option.isNone_iff_eq_none]at hno;simp only[Option.some.injEq,Prod.mk.injEq]at hx;obtain⟨rfl,rfl,rfl,rfl,rfl⟩:=hx;obtain⟨d1,d2⟩:=xop_ok2 hk hp;exact⟨⟨hd,true,hw,(fun hc=>by cases hc),fun _=>⟨rfl,(fun hc=>by rw[hiw]at hc;cases hc),fun _=> .inl ⟨rfl,rfl,h1,d1,hno.1,rfl,hno.2⟩⟩⟩,tch_put hno.1 d2⟩
     ·simp at hx
    ·simp at hx
 ·rename_i hiw;split at hx
  ·rename_i v1 q1 h1 hp;split at hx
   ·rename_i hq;simp only[Option.some.injEq,Prod.mk.injEq]at hx;obtain⟨rfl,rfl,rfl,rfl,rfl⟩:=hx;obtain⟨d1,d2⟩:=xop_ok2 hk hp;rw[Option.isNone_iff_eq_none]at hq;subst hq;simp only[Tch]at d2;subst d2;exact⟨⟨hd,true,hw,(fun hc=>by cases hc),fun _=>⟨rfl,fun _=>⟨rfl,rfl,rfl,d1⟩,fun hc=>by rw[hc]at hiw;simp at hiw⟩⟩,rfl⟩
   ·simp at hx
  ·simp at hx
def lsAt(rs:List Rc):Nat→List (Nat × Nat)→Nat→List (Nat × Nat)
 |_,ls,0=>ls
 |k,ls,i+1=>match rs with
  |r::rs=>lsAt rs (k+1) (addL k r.l ls) i
  |[]=>ls
theorem lsAt_mem: ∀ (rs:List Rc)(k:Nat)(ls:List (Nat × Nat))(i f:Nat)(q:Nat × AObj),i≤rs.length→f<i→gL rs f=some q→(k+f,q.1)∈lsAt rs k ls i:=by
 have keep: ∀ (rs:List Rc)(k:Nat)(ls:List (Nat × Nat))(i:Nat)(x:Nat × Nat),x∈ls→x∈lsAt rs k ls i:=by
  intro rs
  induction rs with
  |nil=>intro k ls i x hx;cases i<;>simpa only[lsAt]using hx
  |cons r rs ih=>
   intro k ls i x hx;cases i with
   |zero=>simpa only[lsAt]using hx
   |succ i=>
    simp only[lsAt];refine ih _ _ _ _ ?_;unfold addL;split
    ·simp [hx]
    ·exact hx
 intro rs
 induction rs with
 |nil=>intro k ls i f q h1 h2 _;simp at h1;omega
 |cons r rs ih=>
  intro k ls i f q h1 h2 h3;cases i with
  |zero=>omega
  |succ i=>
   simp only[lsAt];cases f with
   |zero=>
    refine keep _ _ _ _ _ ?_;simp only[gL,List.getElem?_cons_zero]at h3;unfold addL;rw[h3];simp
   |succ f=>
    have:=ih (k+1) (addL k r.l ls) i f q (by simp at h1;omega) (by omega) (by simpa only[gL,List.getElem?_cons_succ]using h3);rw[show k+(f+1)=k+1+f by omega];exact this
theorem lsAt_inv: ∀ (rs:List Rc)(k:Nat)(ls:List (Nat × Nat))(i:Nat)(x:Nat × Nat),x∈lsAt rs k ls i→x∈ls∨ ∃ f q,f<i∧gL rs f=some q∧x=(k+f,q.1)
 |rs,k,ls,0,x,h=>by
  unfold lsAt at h;exact .inl h
 |[],k,ls,i+1,x,h=>by
  simp only[lsAt]at h;exact .inl h
 |r::rs,k,ls,i+1,x,h=>by
  simp only[lsAt]at h;rcases lsAt_inv rs (k+1) _ i x h with h1|⟨f,q,h1,h2,h3⟩
  ·unfold addL at h1;cases hl:r.l with
   |none=>rw[hl]at h1;exact .inl h1
   |some p=>
    rw[hl]at h1;simp only[List.mem_cons]at h1;rcases h1 with h1|h1
    ·exact .inr ⟨0,p,by omega,by simp only[gL,List.getElem?_cons_zero];exact hl,h1⟩
    ·exact .inl h1
  ·exact .inr ⟨f+1,q,by omega,by simpa only[gL,List.getElem?_cons_succ]using h2,by rw[h3];congr 1;omega⟩
theorem xr4_ok{call:CallR2}(hk:CallOk2 P call){ow:Nat→Bool}{n:Nat}{ops:List Oper}{base:Nat}: ∀ (l:List Oper)(k:Nat){ls:List (Nat × Nat)}{s sf:Slots}{q qf:Option Nat}{h hf:Heap}{rs:List Rc},xr4 P wf call ow n ops base k l ls s q h=some (rs,sf,qf,hf)→
  rs.length=l.length∧gS rs sf 0=s∧gH rs hf 0=h∧(∀ h0,Tch q h0 h→Tch qf h0 hf)∧
   ∀ i o,l[i]? =some o→S4 P ow wf n ops base (k+i) o (gS rs sf i) (gS rs sf (i+1)) (gH rs hf i) (gH rs hf (i+1)) (gV rs i) (gL rs i) (gB rs i) (lsAt rs k ls i)
 |[],k,ls,s,sf,q,qf,h,hf,rs,hx=>by
  simp only[xr4,Option.some.injEq,Prod.mk.injEq]at hx;obtain⟨rfl,rfl,rfl,rfl⟩:=hx;exact⟨rfl,rfl,rfl,fun _ hq=>hq,fun i o ho=>by simp at ho⟩
 |o::rest,k,ls,s,sf,q,qf,h,hf,rs,hx=>by
  unfold xr4 at hx;split at hx
  case isFalse=>simp at hx
  rename_i hd;have fin: ∀ (v:PV)(q':Option Nat)(h':Heap)(l:Option (Nat × AObj))(b:Bool)(s':Slots)(rs':List Rc),rs=⟨s,h,v,l,b⟩::rs'→xr4 P wf call ow n ops base (k+1) rest (addL k l ls) s' (mnO q q') h'=some (rs',sf,qf,hf)→S4 P ow wf n ops base k o s s' h h' v l b ls→Tch q' h h'→
    rs.length=(o::rest).length∧gS rs sf 0=s∧gH rs hf 0=h∧(∀ h0,Tch q h0 h→Tch qf h0 hf)∧
     ∀ i o',(o::rest)[i]? =some o'→S4 P ow wf n ops base (k+i) o' (gS rs sf i) (gS rs sf (i+1)) (gH rs hf i) (gH rs hf (i+1)) (gV rs i) (gL rs i) (gB rs i) (lsAt rs k ls i):=by
   intro v q' h' l b s' rs' hrs hrec hS ht;obtain⟨g1,g2,g3,g4,g5⟩:=xr4_ok hk rest (k+1) hrec;subst hrs;refine⟨by simp[g1],rfl,rfl,fun h0 hq=>g4 h0 (hq.trans ht),fun i o' ho'=>?_⟩;cases i with
   |zero=>
    simp at ho';subst ho';have e1:gS (⟨s,h,v,l,b⟩::rs') sf (0+1)=s':=g2;have e2:gH (⟨s,h,v,l,b⟩::rs') hf (0+1)=h':=g3;rw[e1,e2];exact hS
   |succ i=>
    have:=g5 i o' (by simpa using ho');rw[show k+(i+1)=k+1+i by omega];exact this
  split at hx
  ·simp at hx
  ·rename_i hw;simp only[Option.map_eq_some_iff]at hx;obtain⟨⟨rs',sf',qf',hf'⟩,hrec,he⟩:=hx;simp only[Prod.mk.injEq]at he;obtain⟨h1,rfl,rfl,rfl⟩:=he;refine fin .emp none h none false _ rs' h1.symm (by
    have:mnO q none=q:=(by cases q<;>rfl);rw[this];exact hrec) ⟨hd,false,hw,(fun _=>⟨rfl,rfl,rfl,rfl⟩),fun hc=>by cases hc⟩ rfl
  ·rename_i hw;split at hx
   ·simp at hx
   ·rename_i v q' h' l b hx4;simp only[Option.map_eq_some_iff]at hx;obtain⟨⟨rs',sf',qf',hf'⟩,hrec,he⟩:=hx;simp only[Prod.mk.injEq]at he;obtain⟨h1,rfl,rfl,rfl⟩:=he;obtain⟨t1,t2⟩:=x4_ok hk hd hw hx4;exact fin v q' h' l b _ rs' h1.symm hrec t1 t2
theorem xd4_ok{call:CallR2}(hk:CallOk2 P call){ow:Nat→Bool}{n:Nat}{ops:List Oper}{s sf:Slots}{q qf:Option Nat}{h hf:Heap}(hpre: ∀ i j,j<ops.length→pre ops i j=true→i<j)(hx:xd4 P wf call ow n ops h.next s q ⟨h.next+ops.length,h.obj⟩=some (sf,qf,hf)):
  (∀ K:Slots→Heap→Prop,K sf hf→ ∃ sk hk vk lt br,sk 0=s∧hk 0=⟨h.next+ops.length,h.obj⟩∧K (sk ops.length) (hk ops.length)∧Facts P ow wf n ops h.next sk hk vk lt br)∧(∀ h0,Tch q h0 ⟨h.next+ops.length,h.obj⟩→Tch qf h0 hf):=by
 unfold xd4 at hx;split at hx
 ·simp at hx
 rename_i rs sf' qf' hf' hr;split at hx
 case isFalse=>simp at hx
 rename_i hc;simp only[Option.some.injEq,Prod.mk.injEq]at hx;obtain⟨rfl,rfl,rfl⟩:=hx;simp only[Bool.and_eq_true]at hc;obtain⟨⟨hww,hlate⟩,hquiet⟩:=hc;obtain⟨hlen,g2,g3,g4,g5⟩:=xr4_ok hk ops 0 hr;refine⟨fun K hK=>⟨gS rs sf',gH rs hf',gV rs,gL rs,gB rs,g2,g3,?_,?_⟩,g4⟩
 ·have e1:gS rs sf' ops.length=sf':=by unfold gS;rw[List.getElem?_eq_none (by omega)]
  have e2:gH rs hf' ops.length=hf':=by unfold gH;rw[List.getElem?_eq_none (by omega)]
  rw[e1,e2];exact hK
 ·have late: ∀ j f o,j<ops.length→(gB rs j||(gL rs j).isSome)=true→j<f→ops[f]? =some o→isA ow o=true→(if gB rs j=true then((gH rs hf' (j+1)).obj (h.next+f)).isNone else match gL rs j with|some p=>!(h.next+f==p.1)|none=>true)=true:=by
   intro j f o hj hb hjf ho ha;have h1:=rng_iff.1 hlate j hj;rw[hb]at h1;simp only[Bool.not_true,Bool.false_or]at h1;have h2:=rng_iff.1 h1 f (List.getElem?_eq_some_iff.1 ho).1;have h3:(decide (j<f)&&(ops[f]?).any (isA ow))=true:=(by rw[ho];simp[hjf,ha]);rw[h3]at h2;simpa using h2
  have segA: ∀ (M d:Nat),M+d≤ops.length→(∀ j,M≤j→j<M+d→gB rs j=false)→gH rs hf' (M+d)=lob (gL rs) (fun f=>decide (M≤f)) (gH rs hf' M) (M+d):=by
   intro M d
   induction d with
   |zero=>
    intro _ _;have:=lob_hi (lt:=gL rs) (p:=fun f=>decide (M≤f)) (H:=gH rs hf' M) (m:=0) M (fun f _ hf _=>by simp;omega);rw[Nat.zero_add]at this;rw[Nat.add_zero,this];try rfl
   |succ d ih=>
    intro h1 h2;have ih:=ih (by omega) (fun j a b=>h2 j a (by omega));have hS:=g5 (M+d) ops[M+d] (List.getElem?_eq_getElem (by omega));have hb:=h2 (M+d) (by omega) (by omega);obtain⟨w,_,k1,k2⟩:=hS.ok;rw[show M+(d+1)=M+d+1 by omega,lob_succ];have key:gH rs hf' (M+d+1)=match gL rs (M+d)with|some q=>(gH rs hf' (M+d)).set q.1 q.2|none=>gH rs hf' (M+d):=by
     cases w with
     |false=>rw[(k1 rfl).2.2.1];exact(k1 rfl).2.1
     |true=>
      cases hiw:isW ow wf ops[M+d]with
      |false=>rw[((k2 rfl).2.1 hiw).2.1];exact((k2 rfl).2.1 hiw).1
      |true=>
       rcases(k2 rfl).2.2 hiw with k3|k3|k3
       ·rw [k3.1]at hb;simp at hb
       ·obtain ⟨_,_,ob,k4,_,k5⟩:=k3;rw[k4];simpa using k5
       ·obtain ⟨_,_,_,_,_,_,_,ob,_,_,k4,k5,_⟩:=k3;rw[k4];exact k5
    rw[key];cases hl:gL rs (M+d)with
    |none=>simp only;exact ih
    |some q=>simp only[show decide (M≤M+d)=true by simp,if_true];rw[ih]
  have wwP: ∀ i j,i<j→j<ops.length→(gB rs i=true∨(gL rs i).isSome=true)→(gB rs j=true∨(gL rs j).isSome=true)→
    pre ops i j=true∨(∃ p q,gL rs i=some p∧gL rs j=some q∧p.1≠q.1)∨(gB rs i=true∧(gL rs j).isSome=true∧ ∃ o,ops[j]? =some o∧isA ow o=true)∨((gL rs i).isSome=true∧gB rs j=true∧ ∃ o,ops[i]? =some o∧isA ow o=true):=by
   intro i j hij hj hi hj2;have h1:=rng_iff.1 hww j hj;have hj3:(gB rs j||(gL rs j).isSome)=true:=(by simpa using hj2);have hi3:(gB rs i||(gL rs i).isSome)=true:=(by simpa using hi);rw[hj3]at h1;simp only[Bool.not_true,Bool.false_or]at h1;have h2:=rng_iff.1 h1 i hij;rw[hi3]at h2;simp only[Bool.not_true,Bool.false_or,Bool.or_eq_true]at h2;rcases h2 with((h2|h2)|h2)|h2
   ·exact .inl h2
   ·right;left;split at h2
    ·rename_i p q e1 e2;exact⟨p,q,e1,e2,by simpa using h2⟩
    ·simp at h2
   ·simp only[Bool.and_eq_true]at h2;refine .inr (.inr (.inl ⟨h2.1.1,h2.1.2,ops[j],List.getElem?_eq_getElem hj,?_⟩));have:=h2.2;rw[List.getElem?_eq_getElem hj]at this;simpa using this
   ·simp only[Bool.and_eq_true]at h2;refine .inr (.inr (.inr ⟨h2.1.1,h2.1.2,ops[i],List.getElem?_eq_getElem (by omega),?_⟩));have:=h2.2;rw[List.getElem?_eq_getElem (by omega)]at this;simpa using this
  have kxL: ∀ j,j<ops.length→(∀ f p,j<f→(hf:f<ops.length)→gL rs f=some p→isA ow ops[f]=false→pre ops j f=true)→ ∀ id∈kx ow ops (gL rs) j,id∈killsAt ow ops h.next j (lsAt rs 0 [] j):=by
   intro j hjl hst id hid;obtain⟨f,p,m1,m2,m3,m4,m5,m6⟩:=kx_mem hid;unfold killsAt;rw[List.mem_append];rcases Nat.lt_trichotomy f j with m7|m7|m7
   ·left;rw[List.mem_filterMap];have:=lsAt_mem rs 0 [] j f p (by omega) m7 m5;rw[Nat.zero_add]at this;have hjf:pre ops j f=false:=by
     cases hpp:pre ops j f with
     |false=>rfl
     |true=>have:=hpre j f m1 hpp;omega
    exact⟨_,this,by simp[unoB,m2,m3,hjf,m6]⟩
   ·exact (m2 m7.symm).elim
   ·right;have hSf:=g5 f ops[f] (List.getElem?_eq_getElem m1);rw[Nat.zero_add]at hSf;have fA:isA ow ops[f]=true:=by
     cases hA:isA ow ops[f]with
     |true=>rfl
     |false=>
      rcases m4 with m4|m4
      ·rw [hst f p m7 m1 m5 hA]at m4;simp at m4
      ·rw [hA]at m4;simp at m4
    obtain⟨wf',_,f1,f2⟩:=hSf.ok;cases wf' with
    |false=>rw[(f1 rfl).2.2.1]at m5;simp at m5
    |true=>
     cases hiwf:isW ow wf ops[f]with
     |false=>rw[((f2 rfl).2.1 hiwf).2.1]at m5;simp at m5
     |true=>
      rcases(f2 rfl).2.2 hiwf with f3|f3|f3
      ·rw [f3.2.1]at m5;simp at m5
      ·obtain ⟨_,_,ob,f4,_⟩:=f3;rw[f4]at m5;simp at m5;rw[List.mem_map];refine⟨f,?_,by rw[← m6, ← m5]⟩;unfold laterA;rw[List.mem_filter];exact⟨List.mem_range.2 m1,by rw[List.getElem?_eq_getElem m1];simp[m7,fA]⟩
      ·obtain ⟨_,_,_,_,_,_,_,_,f4,_⟩:=f3;unfold isA at fA;rw[f4]at fA;simp at fA
  refine⟨fun j o ho=>?_,fun i j hij hj hi hj2=>?_⟩
  ·have hS:=g5 j o ho;rw[Nat.zero_add]at hS;have hjl:j<ops.length:=(List.getElem?_eq_some_iff.1 ho).1;obtain⟨w,k0,k1,k2⟩:=hS.ok;refine⟨hS.dst,w,k0,k1,fun hw=>?_⟩;obtain⟨k3,k4,k5⟩:=k2 hw;refine⟨k3,fun hiw=>?_,fun hiw=>?_⟩
   ·obtain ⟨t1,t2,t3,t4⟩:=k4 hiw;refine⟨t1,t2,t3,fun M hM=>?_⟩;have hq:=rng_iff.1 hquiet j hjl;rw[ho]at hq;simp only[hiw,Bool.false_or]at hq;rw[hw]at k0;rw[k0]at hq;simp only at hq;have hq2:=rng_iff.1 hq M (by have:=hM.1;omega);have hcut:cutB ops (gB rs) j M=true:=by
     unfold cutB;simp only[Bool.and_eq_true,Bool.or_eq_true,beq_iff_eq];refine⟨hM.2.2.2,rng_iff.2 fun b hb=>?_⟩;cases hbb:gB rs b with
     |false=>rfl
     |true=>
      simp only[Bool.not_true,Bool.false_or];split
      ·rename_i hbm;rw[hM.2.1 b hbm hbb];try rfl
      ·rename_i hbm;rw[hM.2.2.1 b (by omega) hbb];try rfl
    rw[hcut]at hq2;simp only[Bool.not_true,Bool.false_or,Bool.or_eq_true]at hq2;rcases hq2 with hq2|hq2
    ·simp only[Bool.and_eq_true,beq_iff_eq]at hq2;obtain⟨hMl,hns⟩:=hq2;refine⟨killsAt ow ops h.next j (lsAt rs 0 [] j),kxL j hjl (fun f p m1 m2 m3 m4=>?_),?_⟩
     ·have hSf:=g5 f ops[f] (List.getElem?_eq_getElem m2);obtain⟨wf',_,f1,f2⟩:=hSf.ok;cases wf' with
      |false=>rw[(f1 rfl).2.2.1]at m3;simp at m3
      |true=>
       cases hiwf:isW ow wf ops[f]with
       |false=>rw[((f2 rfl).2.1 hiwf).2.1]at m3;simp at m3
       |true=>
        rcases(f2 rfl).2.2 hiwf with f3|f3|f3
        ·rw [f3.2.1]at m3;simp at m3
        ·obtain ⟨_,fA,_⟩:=f3;rw[fA]at m4;simp at m4
        ·obtain ⟨_,_,_,_,_,_,_,_,f4,_⟩:=f3;have:=rng_iff.1 hns f m2;rw[List.getElem?_eq_getElem m2]at this;simp[m1,isSt,f4,unoB,show ¬ j=f by omega]at this;cases hpp:pre ops f j with
         |true=>have:=hpre f j hjl hpp;omega
         |false=>exact this.resolve_right (by rw[hpp];simp)
     ·-- the heap at k, with what stands apart hidden
      have hMj:M≤j:=(by rw[hMl];exact(lastOf_spec _ _).1);have hnb: ∀ b,M≤b→b<M+(j-M)→gB rs b=false:=by
       intro b b1 b2;have:=(lastOf_spec (gB rs) j).2.2 b (by rw[hMl]at b1;exact b1) (by omega);simpa using this
      have hseg:=segA M (j-M) (by omega) hnb;rw[show M+(j-M)=j by omega]at hseg;have hgx:gx ops (gL rs) (gH rs hf') j M (killsAt ow ops h.next j (lsAt rs 0 [] j))=killL (gH rs hf' j) (killsAt ow ops h.next j (lsAt rs 0 [] j)):=by
       unfold gx;obtain⟨d,hdd⟩: ∃ d,ops.length=j+d:=⟨ops.length-j,by omega⟩;have h2:gH rs hf' j=lob (gL rs) (fun f=>decide (M≤f)&&decide (f<j)) (gH rs hf' M) ops.length:=by
        rw[hseg,hdd,lob_hi d (fun f a _ _=>by simp;omega)];exact lob_congr _ fun f hf _=>by simp[hf]
       rw[h2];refine lob_kill _ fun f p hf hl=>?_;by_cases hMf:M≤f
       ·simp only[hMf,decide_true,Bool.true_and];cases hp:pre ops f j with
        |true=>
         rcases Nat.lt_or_ge f j with m7|m7
         ·left;simp[m7]
         ·right
          -- it stands behind and before: looked at as apart only when it is; else nothing is noted
          exact absurd hp (by
           have:=hpre f j hjl hp;omega)
        |false=>
         rcases Nat.lt_or_ge f j with m7|m7
         ·right;unfold killsAt;rw[List.mem_append];left;rw[List.mem_filterMap];have hm:=lsAt_mem rs 0 [] j f p (by omega) m7 hl;rw[Nat.zero_add]at hm;have hjf:pre ops j f=false:=by
           cases hpp:pre ops j f with
           |false=>rfl
           |true=>have:=hpre j f hf hpp;omega
          exact⟨_,hm,by simp[unoB,hp,hjf,show ¬ j=f by omega]⟩
         ·left;simp;omega
       ·left;simp[hMf]
      rw[hgx];exact t4
    ·exact ⟨kx ow ops (gL rs) j,fun id hid=>hid,xagain_ok2 hk hq2⟩
   ·rcases k5 hiw with⟨t1,t2,H',t3,t4,t5,t6⟩|⟨t1,t2,t3⟩|⟨t1,t,x,y,id,r,f,ob,u1,u2,u3,u4,u5⟩
    ·have hkL: ∀ id∈kx ow ops (gL rs) j,id∈killsAt ow ops h.next j (lsAt rs 0 [] j):=kxL j hjl (fun f p m1 m2 m3 m4=>by
      rcases wwP j f m1 m2 (.inl t1) (.inr (by rw[m3];try rfl))with h5|⟨_,_,h5,_⟩|⟨_,_,o2,h5,h6⟩|⟨h5,_⟩
      ·exact h5
      ·rw [t2]at h5;simp at h5
      ·rw [List.getElem?_eq_getElem m2]at h5;simp at h5;rw[h5,h6]at m4;simp at m4
      ·rw [t2]at h5;simp at h5)
     have hLk: ∀ id∈killsAt ow ops h.next j (lsAt rs 0 [] j),id∈kx ow ops (gL rs) j∨(gH rs hf' j).obj id=none:=fun id hid=>by
      unfold killsAt at hid;rw[List.mem_append]at hid;rcases hid with hid|hid
      ·rw [List.mem_filterMap]at hid;obtain⟨x,m1,m2⟩:=hid;rcases lsAt_inv _ _ _ _ _ m1 with m3|⟨f,p,m3,m4,rfl⟩
       ·simp at m3
       ·left;split at m2
        ·rename_i hu;simp at m2;simp[unoB]at hu;rw[← m2];exact mem_kx (show f<ops.length by omega) hu.1.1 hu.2 (.inl hu.1.2) m4
        ·simp at m2
      ·rw [List.mem_map]at hid;obtain⟨f,m1,rfl⟩:=hid;exact .inr (t6 f m1)
     have eK:killL (gH rs hf' j) (kx ow ops (gL rs) j)=killL (gH rs hf' j) (killsAt ow ops h.next j (lsAt rs 0 [] j)):=heap_ext rfl fun id=>by
      simp only[killL];by_cases m1:id∈kx ow ops (gL rs) j
      ·simp [m1,hkL id m1]
      ·by_cases m2:id∈killsAt ow ops h.next j (lsAt rs 0 [] j)
       ·have:=(hLk id m2).resolve_left m1;simp[m1,m2,this]
       ·simp [m1,m2]
     have eP:putL H' (gH rs hf' j) (kx ow ops (gL rs) j)=putL H' (gH rs hf' j) (killsAt ow ops h.next j (lsAt rs 0 [] j)):=heap_ext rfl fun id=>by
      simp only[putL];by_cases m1:id∈kx ow ops (gL rs) j
      ·simp [m1,hkL id m1]
      ·by_cases m2:id∈killsAt ow ops h.next j (lsAt rs 0 [] j)
       ·have:=(hLk id m2).resolve_left m1;simp[m1,m2,this]
       ·simp [m1,m2]
     refine .inl ⟨t1,t2,⟨H',by rw[eK];exact t3,fun id hid=>t4 id (hkL id hid),by rw[eP];exact t5⟩,fun f q hjf hq ha=>?_⟩;have:=late j f q hjl (by simp[t1]) hjf hq ha;rw[if_pos t1]at this;simpa using this
    ·exact .inr (.inl ⟨t1,t2,t3⟩)
    ·refine .inr (.inr ⟨t1,t,x,y,id,r,f,ob,u1,u2,u3,u4,fun f' q hjf hq ha=>?_,u5⟩);have:=late j f' q hjl (by simp[u3]) hjf hq ha;rw[if_neg (by simp[t1]),u3]at this;simpa using this
  ·exact wwP i j hij hj hi hj2
theorem xc_ok2{call:CallR2}(hk:CallOk2 P call){ow:Nat→Bool}{n:Nat}: ∀ (m:Nat)(c:Code){s s':Slots}{q q':Option Nat}{h h':Heap}{e:Exit},xc2 P wf call ow n m c s q h=some (e,s',q',h')→
  (∀ Q:Post,Q e s' h'→awp P ow wf n c Q s h)∧(∀ h0,Tch q h0 h→Tch q' h0 h')
 |0,c,s,s',q,q',h,h',e,hx=>by simp[xc2]at hx
 |m+1,c,s,s',q,q',h,h',e,hx=>by
  unfold xc2 at hx;split at hx
  ·simp only[Option.some.injEq,Prod.mk.injEq]at hx;obtain⟨rfl,rfl,rfl,rfl⟩:=hx;exact⟨fun Q hQ=>by simpa only[awp]using hQ,fun h0 hq=>hq⟩
  ·rename_i id ops;split at hx
   ·rename_i hdo;simp only[Option.map_eq_some_iff,Prod.mk.injEq]at hx;obtain⟨⟨s1,q1,h1⟩,hx,rfl,rfl,rfl,rfl⟩:=hx;have:=fun(Q:Post)=>xd_ok2 (K:=Q .normal) hk _ _ hx;exact⟨fun Q hQ=>by simp only[awp,if_true];exact⟨_,_,.refl,.inl ⟨hdo,(this Q).1 hQ⟩⟩,(this (fun _ _ _=>True)).2⟩
   ·split at hx
    ·rename_i hdo;simp only[Option.map_eq_some_iff,Prod.mk.injEq]at hx;obtain⟨⟨s1,q1,h1⟩,hx,rfl,rfl,rfl,rfl⟩:=hx;have:=fun(Q:Post)=>xd_ok3 (K:=Q .normal) hk _ _ hx;refine⟨fun Q hQ=>by simp only[awp,if_true];exact⟨_,_,.refl,.inr (.inl ⟨hdo,(this Q).1 hQ⟩)⟩,fun h0 hq=>(this (fun _ _ _=>True)).2 h0 (hq.trans ?_)⟩;exact⟨Nat.le_add_right _ _,fun _ _=>rfl⟩
    ·split at hx
     ·rename_i hdo;simp only[Option.map_eq_some_iff,Prod.mk.injEq]at hx;obtain⟨⟨s1,q1,h1⟩,hx,rfl,rfl,rfl,rfl⟩:=hx;obtain⟨t1,t2⟩:=xd4_ok hk (fun i j hj hp=>pre_lt3 (DOk3.of hdo) j i hj hp) hx;refine⟨fun Q hQ=>by simp only[awp,if_true];exact⟨_,_,.refl,.inr (.inr ⟨hdo,t1 (Q .normal) hQ⟩)⟩,fun h0 hq=>t2 h0 (hq.trans ?_)⟩;exact⟨Nat.le_add_right _ _,fun _ _=>rfl⟩
     ·simp at hx
  ·rename_i id ops;simp only[Option.map_eq_some_iff,Prod.mk.injEq]at hx;obtain⟨⟨s1,q1,h1⟩,hx,rfl,rfl,rfl,rfl⟩:=hx;have:=fun(Q:Post)=>xl_ok2 (K:=Q .normal) hk _ hx;exact⟨fun Q hQ=>by simp only[awp,Bool.false_eq_true,if_false];exact⟨_,_,.refl,(this Q).1 hQ⟩,(this (fun _ _ _=>True)).2⟩
  ·rename_i a b;split at hx
   ·rename_i s1 q1 h1 ha;obtain⟨a1,a2⟩:=xc_ok2 hk m a ha;obtain⟨b1,b2⟩:=xc_ok2 hk m b hx;exact⟨fun Q hQ=>by simp only[awp];exact a1 _ (b1 Q hQ),fun h0 hq=>b2 h0 (a2 h0 hq)⟩
   ·rename_i hne;obtain⟨a1,a2⟩:=xc_ok2 hk m a hx;refine⟨fun Q hQ=>?_,a2⟩;simp only[awp];refine a1 _ ?_;cases e<;>simp only[Post.seq]<;>first|exact hQ|exact(hne _ _ _ hx).elim
  ·rename_i c x y;split at hx
   ·rename_i hc;obtain⟨a1,a2⟩:=xc_ok2 hk m x hx;exact⟨fun Q hQ=>by simp only[awp,hc,if_true];exact a1 Q hQ,a2⟩
   ·rename_i hc;obtain⟨a1,a2⟩:=xc_ok2 hk m y hx;exact⟨fun Q hQ=>by simp only[awp,hc,Bool.false_eq_true,if_false];exact a1 Q hQ,a2⟩
   ·simp at hx
  ·rename_i id c;split at hx
   ·rename_i id' s1 q1 h1 ha;obtain⟨a1,a2⟩:=xc_ok2 hk m c ha;simp only[Option.some.injEq,Prod.mk.injEq]at hx;obtain⟨rfl,rfl,rfl,rfl⟩:=hx;refine⟨fun Q hQ=>?_,a2⟩;simp only[awp];refine a1 _ ?_;simp only[Post.block];split<;>rename_i hid<;>simpa only[hid,if_true,if_false]using hQ
   ·rename_i hne;obtain⟨a1,a2⟩:=xc_ok2 hk m c hx;refine⟨fun Q hQ=>?_,a2⟩;simp only[awp];refine a1 _ ?_;cases e<;>simp only[Post.block]<;>first|exact hQ|exact(hne _ _ _ _ hx).elim
  ·rename_i c;split at hx
   ·rename_i s1 q1 h1 ha;obtain⟨a1,a2⟩:=xc_ok2 hk m c ha;obtain⟨b1,b2⟩:=xc_ok2 hk m (.loop c) hx;refine⟨fun Q hQ=>?_,fun h0 hq=>b2 h0 (a2 h0 hq)⟩;have:=b1 Q hQ;simp only[awp]at this⊢;obtain⟨j,hj⟩:=this;exact⟨j+1,a1 _ hj⟩
   ·rename_i hne;obtain⟨a1,a2⟩:=xc_ok2 hk m c hx;refine⟨fun Q hQ=>?_,a2⟩;simp only[awp];refine⟨1,a1 _ ?_⟩;cases e<;>simp only[Post.seq]<;>first|exact hQ|exact(hne _ _ _ hx).elim
  ·simp only[Option.some.injEq,Prod.mk.injEq]at hx;obtain⟨rfl,rfl,rfl,rfl⟩:=hx;exact⟨fun Q hQ=>by simpa only[awp]using hQ,fun h0 hq=>hq⟩
  ·simp only[Option.some.injEq,Prod.mk.injEq]at hx;obtain⟨rfl,rfl,rfl,rfl⟩:=hx;exact⟨fun Q hQ=>by simpa only[awp]using hQ,fun h0 hq=>hq⟩
  ·simp at hx
theorem xf_ok2(hm:P.follows .mixedOrders=true){ext:FuncId→List PV→Heap→Option PV}(hext:ExtOk2 P ext){keep:FuncId→Bool}{m:Nat}: ∀ k,CallOk2 P (xf2 P wf own ext keep m k)
 |0,f,args,h,v,q,h',hx=>by simp[xf2]at hx
 |k+1,f,args,h,v,q,h',hx=>by
  unfold xf2 at hx;split at hx
  ·rename_i r hr;simp only[Option.some.injEq,Prod.mk.injEq]at hx;obtain⟨rfl,rfl,rfl⟩:=hx;exact⟨hext _ _ _ _ hr,rfl⟩
  split at hx
  ·simp at hx
  ·rename_i fn hf;split at hx
   case isFalse=>simp at hx
   rename_i hh;split at hx
   ·simp at hx
   ·rename_i c hb;split at hx
    case h_2=>simp at hx
    rename_i s q1 h1 hc;split at hx
    ·simp at hx
    ·rename_i vs hr;have main:PCall P f args h (fun r h2=>r=resV vs∧h2=h1)∧Tch q1 h h1:=by
      obtain⟨e,he,hc⟩:=endS_some hc;obtain⟨a1,a2⟩:=xc_ok2 (xf_ok2 hm hext k) m c hc;refine⟨pcall_body hm hf hb hh.1 hh.2 (a1 _ ?_),a2 h rfl⟩;rcases he with rfl|rfl<;>simp only[retPost,hr]<;>exact⟨trivial,trivial⟩
     split at hx
     ·rename_i hkp;simp only[Bool.and_eq_true]at hkp;split at hx
      ·rename_i r hfr;simp only[Option.some.injEq,Prod.mk.injEq]at hx;obtain⟨rfl,rfl,rfl⟩:=hx;refine⟨pcall_wf hh.1 fun hwf=>PCall.drop (main.1.mono ?_),rfl⟩;rintro r' h' ⟨rfl,rfl⟩;have hold: ∀ id,id<h.next→h'.obj id=h.obj id:=by
        intro id hid;have ht:=main.2;cases q1 with
        |none=>simp only[Tch]at ht;rw[ht]
        |some t=>
         simp only[Tch]at ht;have:=hkp.2;simp[dropB]at this;exact ht.2 id (by omega)
       refine⟨r,h,⟨rfl,rfl⟩,frzP_ok _ _ hfr,Nat.le_refl _,fun id o ho=>?_⟩;have hid:=hwf id (by rw[ho];try rfl);exact⟨by rw[hold id hid];exact ho,hid,.inl ho⟩
      ·simp only[Option.some.injEq,Prod.mk.injEq]at hx;obtain⟨rfl,rfl,rfl⟩:=hx;exact main
     ·simp only[Option.some.injEq,Prod.mk.injEq]at hx;obtain⟨rfl,rfl,rfl⟩:=hx;exact main
def xgives2(r:Option (PV × Option Nat × Heap))(v:PV):Bool:=match r with
 |some (u,_,_)=>pvEq u v
 |none=>false
theorem pcall_run2(hm:P.follows .mixedOrders=true){ext:FuncId→List PV→Heap→Option PV}(hext:ExtOk2 P ext){keep:FuncId→Bool}{m k:Nat}{f:FuncId}{args:List PV}{h:Heap}{v:PV}(hx:xgives2 (xf2 P wf own ext keep m k f args h) v=true):PCall P f args h (fun r _=>r=v):=by
 unfold xgives2 at hx;split at hx
 ·rename_i u q h' hr;refine((xf_ok2 hm hext k _ _ _ _ _ _ hr).1).mono (fun r h'' hr=>?_);rw[hr.1,pvEq_eq _ _ hx]
 ·simp at hx
end
end Go.AM
namespace Go.AM
section
variable {P:Program}
theorem ObjOk.blk_lt{β:Env}{n:Nat}{F:Nat→Prop}{w:World}{k:Blk}{o:AObj}(ho:ObjOk β n F w k o){b:Nat}(hb:k.b=some b):b<w.heap.size:=by
 cases o with
 |arr z rows=>
  simp only[ObjOk]at ho;rcases ho.2 with h1|⟨b',c,e,fr,h1,h2,_⟩
  ·rw [h1.1]at hb;simp at hb
  ·rw [h1]at hb;simp at hb;subst hb;exact(Array.getElem?_eq_some_iff.1 h2).1
 |map es=>
  simp only[ObjOk]at ho;obtain⟨b',fs,clock,h1,h2,_⟩:=ho;rw[h1]at hb;simp at hb;subst hb;exact(Array.getElem?_eq_some_iff.1 h2).1
 |glb g lo hi=>
  simp only[ObjOk]at ho;rw[ho.1]at hb;simp at hb
theorem PCall.part{f:FuncId}{args:List PV}{hS h:Heap}{v:PV}(hc:PCall P f args hS fun r h'=>r=v∧h'=hS)(hle:hS.next≤h.next)(hsub: ∀ id o,hS.obj id=some o→h.obj id=some o∧id<hS.next∧inNO hS.next o)(hargs:inNL hS.next args):
  PCall P f args h fun r h'=>r=v∧h'=h:=by
 intro β w vals sm hr;have live: ∀ id,(hS.obj id).isSome=true→(h.obj id).isSome=true∧id<hS.next:=fun id hs=>by
  obtain⟨o,ho⟩:=Option.isSome_iff_exists.1 hs;obtain⟨g1,g2,_⟩:=hsub id o ho;exact⟨by rw[g1];try rfl,g2⟩
 let X':XT:=⟨fun b=>β.X b∨ ∃ id,(h.obj id).isSome=true∧hS.obj id=none∧(β id).b=some b,β.X.T⟩;have fzS: ∀ b,Fz β h w b→Fz ⟨β.bl,X'⟩ hS w b:=fun b hb=>⟨hb.1,fun id hs=>hb.2.1 id (live id hs).1,fun hx=>by
  rcases hx with hx|⟨id,h1,_,h3⟩
  ·exact hb.2.2 hx
  ·exact hb.2.1 id h1 h3⟩
 have mvS:Mv β h.next (Fz β h w) w ⟨β.bl,X'⟩ h.next (Fz ⟨β.bl,X'⟩ hS w) w:=⟨Nat.le_refl _,fun _ _ _=>rfl,fun b hb=>⟨fzS b hb,rfl⟩,rfl⟩
 have smS:Sim ⟨β.bl,X'⟩ hS w:=by
  refine⟨fun id hs=>(live id hs).2,fun id o ho=>?_,fun i j h1 h2 b g1 g2=>sm.inj i j (live i h1).1 (live j h2).1 b g1 g2,fun b hx=>?_,fun id hs b hb hx=>?_,fun id hs=>sm.o0 id (live id hs).1⟩
  ·obtain ⟨g1,g2,g3⟩:=hsub id o ho;exact ObjOk.low (F:=Fz ⟨β.bl,X'⟩ hS w) (fun b hb=>hb) g3 (ObjOk.mv mvS (fun _ _=>rfl) (sm.ok id o g1))
  ·rcases hx with hx|⟨id,h1,_,h3⟩
   ·exact sm.xs b hx
   ·obtain ⟨o,ho⟩:=Option.isSome_iff_exists.1 h1;exact(sm.ok id o ho).blk_lt h3
  ·rcases hx with hx|⟨id',h1,h2,h3⟩
   ·exact sm.nx id (live id hs).1 b hb hx
   ·have:=sm.inj id id' (live id hs).1 h1 b hb h3;subst this;rw[h2]at hs;simp at hs
 have hrS:RepL ⟨β.bl,X'⟩ hS.next (Fz ⟨β.bl,X'⟩ hS w) w args vals:=RepL.low (F:=Fz ⟨β.bl,X'⟩ hS w) (fun b hb=>hb) _ _ hargs (RepL.mv mvS _ _ hr)
 refine(hc ⟨β.bl,X'⟩ w vals smS hrS).mono ?_;rintro e w' ⟨r,h',β',u,rfl,⟨rfl,rfl⟩,sm',hrep,ex⟩;have bE: ∀ id,id<h'.next→β' id=β id:=fun id hid=>ex.beta id hid
 -- what nobody writes again, of the whole heap
 have fzB: ∀ b,Fz β' h' w' b→Fz β h w' b:=fun b hb=>⟨hb.1,fun id hs hbb=>by
  cases ho:h'.obj id with
  |none=>
   refine hb.2.2 ?_;rw[ex.X];exact .inr ⟨id,hs,ho,hbb⟩
  |some o=>
   have hid:=(live id (by rw[ho];try rfl)).2;exact hb.2.1 id (by rw[ho];try rfl) (by rw[bE id hid];exact hbb),fun hx=>hb.2.2 (by rw[ex.X];exact .inl hx)⟩
 have mB:Mv β' h'.next (Fz β' h' w') w' β h.next (Fz β h w') w':=⟨hle,fun id hid _=>(bE id hid).symm,fun b hb=>⟨fzB b hb,rfl⟩,by rw[ex.X]⟩
 have mF:Mv β h.next (Fz β h w) w β h.next (Fz β h w') w':=⟨Nat.le_refl _,fun _ _ _=>rfl,fun b hb=>by
  obtain⟨g1,g2⟩:=ex.fz b (fzS b hb);exact⟨fzB b g1,g2⟩,rfl⟩
 refine⟨r,h,β,u,rfl,⟨rfl,rfl⟩,?_,Rep.mv mB _ _ hrep,?_⟩
 ·refine ⟨sm.lt,fun id o ho=>?_,sm.inj,fun b hx=>Nat.lt_of_lt_of_le (sm.xs b hx) ex.size,sm.nx,sm.o0⟩;cases hos:h'.obj id with
  |some o'=>
   obtain⟨g1,g2,_⟩:=hsub id o' hos;rw[ho]at g1;simp at g1;subst g1;have:=ObjOk.mv mB (fun _ _=>rfl) (sm'.ok id o hos);rw[bE id g2]at this;exact this
  |none=>
   refine ObjOk.mv mF (fun b hb=>?_) (sm.ok id o ho);refine ex.xh b (.inr ⟨id,by rw[ho];try rfl,hos,hb⟩) ((sm.ok id o ho).blk_lt hb)
 ·exact ⟨ex.os,ex.tape,ex.output,ex.size,Nat.le_refl _,fun _ _=>rfl,rfl,fun b hb hl=>ex.xh b (.inl hb) hl,fun b hb=>mF.fz b hb,ex.drawn⟩
def arrless(h:Heap):Heap:=⟨h.next,fun id=>match h.obj id with
 |some (.glb g lo hi)=>some (.glb g lo hi)
 |_=>none⟩
theorem arrless_some{h:Heap}{id:Nat}{o:AObj}(ho:(arrless h).obj id=some o):h.obj id=some o:=by
 simp only[arrless]at ho;split at ho
 ·rename_i hg;rw[hg];exact ho
 ·simp at ho
theorem arrless_blk{β:Env}{n:Nat}{F:Nat→Prop}{w:World}{h:Heap}{id:Nat}{o:AObj}{b:Nat}(ho:h.obj id=some o)(hk:ObjOk β n F w (β id) o)(hb:(β id).b=some b):(arrless h).obj id=none:=by
 simp only[arrless];split
 ·rename_i g lo hi hg;rw[ho]at hg;simp at hg;subst hg;simp only[ObjOk]at hk;rw[hk.1]at hb;simp at hb
 ·rfl
theorem PCall.lendV{f:FuncId}{args args':List PV}{h:Heap}{u:PV}(hu: ∀ (β β':Env)(n n':Nat)(F F':Nat→Prop)(w w':World)(x:Value),Rep β n F w u x→Rep β' n' F' w' u x)(hc:PCall P f args' (arrless h) fun r h'=>r=u∧h'=arrless h)
  (hrep: ∀ (β:Env)(w:World)(vals:List Value),Sim β h w→RepL β h.next (Fz β h w) w args vals→RepL β h.next (Fz β (arrless h) w) w args' vals):
  PCall P f args h fun r h'=>r=u∧h'=h:=by
 intro β w vals sm hr;have live: ∀ id,((arrless h).obj id).isSome=true→(h.obj id).isSome=true:=fun id hs=>by
  obtain⟨o,ho⟩:=Option.isSome_iff_exists.1 hs;rw[arrless_some ho];try rfl
 have fzS: ∀ b,Fz β h w b→Fz β (arrless h) w b:=fun b hb=>⟨hb.1,fun id hs=>hb.2.1 id (live id hs),hb.2.2⟩;have mvS:Mv β h.next (Fz β h w) w β h.next (Fz β (arrless h) w) w:=⟨Nat.le_refl _,fun _ _ _=>rfl,fun b hb=>⟨fzS b hb,rfl⟩,rfl⟩
 have smS:Sim β (arrless h) w:=
  ⟨fun id hs=>sm.lt id (live id hs),fun id o ho=>ObjOk.mv mvS (fun _ _=>rfl) (sm.ok id o (arrless_some ho)),fun i j h1 h2 b g1 g2=>sm.inj i j (live i h1) (live j h2) b g1 g2,sm.xs,fun id hs b hb=>sm.nx id (live id hs) b hb,fun id hs=>sm.o0 id (live id hs)⟩
 refine(hc β w vals smS (hrep β w vals sm hr)).mono ?_;rintro e w' ⟨r,h',β',x,rfl,⟨rfl,rfl⟩,sm',hx,ex⟩;have same: ∀ b,Fz β (arrless h) w b→w'.heap[b]? =w.heap[b]?:=fun b hb=>(ex.fz b hb).2;have fzK: ∀ b,Fz β h w b→Fz β h w' b:=fun b hb=>⟨Nat.lt_of_lt_of_le hb.1 ex.size,hb.2.1,hb.2.2⟩;have mF:Mv β h.next (Fz β h w) w β h.next (Fz β h w') w':=⟨Nat.le_refl _,fun _ _ _=>rfl,fun b hb=>⟨fzK b hb,same b (fzS b hb)⟩,rfl⟩
 have bE: ∀ id,id<h.next→β' id=β id:=fun id hid=>ex.beta id hid
 have fzB: ∀ b,Fz β' (arrless h) w' b→b<w'.heap.size∧¬ β.X b:=fun b hb=>⟨hb.1,fun hx=>hb.2.2 (by rw[ex.X];exact hx)⟩
 -- the block of rows is written by nobody during the call
 have arrB: ∀ id o b,h.obj id=some o→(β id).b=some b→Fz β (arrless h) w b:=by
  intro id o b ho hb;have hs:(h.obj id).isSome=true:=by rw[ho];try rfl
  refine⟨(sm.ok id _ ho).blk_lt hb,fun j hj hbb=>?_,sm.nx id hs b hb⟩;have:=sm.inj id j hs (live j hj) b hb hbb;subst this;rw[arrless_blk ho (sm.ok id _ ho) hb]at hj;simp at hj
 refine⟨_,h,β,x,rfl,⟨rfl,rfl⟩,?_,?_,?_⟩
 ·refine ⟨sm.lt,fun id o ho=>?_,sm.inj,fun b hb=>Nat.lt_of_lt_of_le (sm.xs b hb) ex.size,sm.nx,sm.o0⟩;exact ObjOk.mv mF (fun b hb=>same b (arrB id o b ho hb)) (sm.ok id _ ho)
 ·exact hu _ _ _ _ _ _ _ _ _ hx
 ·exact ⟨ex.os,ex.tape,ex.output,ex.size,Nat.le_refl _,fun _ _=>rfl,rfl,fun b hb hl=>ex.xh b hb hl,fun b hb=>mF.fz b hb,ex.drawn⟩
theorem PCall.lend{f:FuncId}{args args':List PV}{h:Heap}{u:Value}(hc:PCall P f args' (arrless h) fun r h'=>r= .sc u∧h'=arrless h)
  (hrep: ∀ (β:Env)(w:World)(vals:List Value),Sim β h w→RepL β h.next (Fz β h w) w args vals→RepL β h.next (Fz β (arrless h) w) w args' vals):
  PCall P f args h fun r h'=>r= .sc u∧h'=h:=
 PCall.lendV (u:= .sc u) (fun _ _ _ _ _ _ _ _ _ hx=>by simp only[Rep]at hx⊢;exact hx) hc hrep
end
end Go.AM
namespace Go.AM
set_option maxRecDepth 20000
variable {P:Program}{ow:Nat→Bool}{s:Slots}{h:Heap}
theorem am0:type_of% (And.intro @rowsI_len (And.intro @ex2_eq (And.intro @new_obj (And.intro @kill_obj (And.intro @set_obj (And.intro @new_next (And.intro @kill_next (And.intro @set_next (And.intro @lenP_imm (And.intro @lenP_emp (And.intro @lenP_nil (And.intro @lenP_own (And.intro @lenP_str (And.intro @lenP_mnil (And.intro @lenP_mp (And.intro @lenK_imm (And.intro @lenK_emp (And.intro @lenK_nil (And.intro @lenK_own (And.intro @lenK_str (And.intro @lenK_mnil (And.intro @lenK_mp (And.intro @idx_imm (And.intro @idx_own (And.intro @idxA_ptr (And.intro @idxA_cptr (And.intro @fldP_ptr (And.intro @fldP_cptr (And.intro @rd_ptr (And.intro @rd_cptr (And.intro @wr_ptr (And.intro @view_imm (And.intro @view_emp (@view_nil)))))))))))))))))))))))))))))))))):=And.intro @rowsI_len (And.intro @ex2_eq (And.intro @new_obj (And.intro @kill_obj (And.intro @set_obj (And.intro @new_next (And.intro @kill_next (And.intro @set_next (And.intro @lenP_imm (And.intro @lenP_emp (And.intro @lenP_nil (And.intro @lenP_own (And.intro @lenP_str (And.intro @lenP_mnil (And.intro @lenP_mp (And.intro @lenK_imm (And.intro @lenK_emp (And.intro @lenK_nil (And.intro @lenK_own (And.intro @lenK_str (And.intro @lenK_mnil (And.intro @lenK_mp (And.intro @idx_imm (And.intro @idx_own (And.intro @idxA_ptr (And.intro @idxA_cptr (And.intro @fldP_ptr (And.intro @fldP_cptr (And.intro @rd_ptr (And.intro @rd_cptr (And.intro @wr_ptr (And.intro @view_imm (And.intro @view_emp (@view_nil)))))))))))))))))))))))))))))))))
theorem am1:type_of% (And.intro @view_own (And.intro @zOk_imm (And.intro @zOk_emp (And.intro @zOk_nil (And.intro @zOk_own (And.intro @isTail_emp (And.intro @isTail_nil (And.intro @isTail_own (And.intro @isSl_imm (And.intro @isSl_own (And.intro @isSl_emp (And.intro @isSl_nil (And.intro @mview_nil (And.intro @mview_mp (And.intro @subL_imm (And.intro @subL_own (And.intro @cells_agg (And.intro @cells_sc (And.intro @cells_imm (And.intro @cells_own (And.intro @cells_ptr (And.intro @cells_cptr (And.intro @cells_emp (And.intro @cells_mp (And.intro @oneC_int (And.intro @oneC_bool (And.intro @oneC_str (And.intro @oneC_nilI (And.intro @oneC_if (And.intro @oneC_p (And.intro @oneC_s (And.intro @oneC_m (And.intro @oneC_imm (@oneC_own)))))))))))))))))))))))))))))))))):=And.intro @view_own (And.intro @zOk_imm (And.intro @zOk_emp (And.intro @zOk_nil (And.intro @zOk_own (And.intro @isTail_emp (And.intro @isTail_nil (And.intro @isTail_own (And.intro @isSl_imm (And.intro @isSl_own (And.intro @isSl_emp (And.intro @isSl_nil (And.intro @mview_nil (And.intro @mview_mp (And.intro @subL_imm (And.intro @subL_own (And.intro @cells_agg (And.intro @cells_sc (And.intro @cells_imm (And.intro @cells_own (And.intro @cells_ptr (And.intro @cells_cptr (And.intro @cells_emp (And.intro @cells_mp (And.intro @oneC_int (And.intro @oneC_bool (And.intro @oneC_str (And.intro @oneC_nilI (And.intro @oneC_if (And.intro @oneC_p (And.intro @oneC_s (And.intro @oneC_m (And.intro @oneC_imm (@oneC_own)))))))))))))))))))))))))))))))))
theorem am2:type_of% (And.intro @oneC_ptr (And.intro @oneC_cptr (And.intro @oneC_emp (And.intro @oneC_mp (And.intro @owp_move (And.intro @owp_assign (And.intro @owp_pick (And.intro @owp_alloc (And.intro @owp_box (And.intro @owp_build (And.intro @owp_buildSlice (And.intro @owp_load (And.intro @owp_store (And.intro @owp_nilCheck (And.intro @owp_binOp (And.intro @owp_unOp (And.intro @owp_convert (And.intro @owp_makeInterface (And.intro @owp_makeMap (And.intro @owp_makeSlice (And.intro @owp_slice (And.intro @owp_fieldAddr (And.intro @owp_field (And.intro @owp_indexAddr (And.intro @owp_index (And.intro @owp_lookup (And.intro @owp_mapUpdate (And.intro @owp_typeAssert (And.intro @owp_extract (And.intro @owp_callB (And.intro @Does_move (And.intro @Does_assign (And.intro @Does_pick (@Does_alloc)))))))))))))))))))))))))))))))))):=And.intro @oneC_ptr (And.intro @oneC_cptr (And.intro @oneC_emp (And.intro @oneC_mp (And.intro @owp_move (And.intro @owp_assign (And.intro @owp_pick (And.intro @owp_alloc (And.intro @owp_box (And.intro @owp_build (And.intro @owp_buildSlice (And.intro @owp_load (And.intro @owp_store (And.intro @owp_nilCheck (And.intro @owp_binOp (And.intro @owp_unOp (And.intro @owp_convert (And.intro @owp_makeInterface (And.intro @owp_makeMap (And.intro @owp_makeSlice (And.intro @owp_slice (And.intro @owp_fieldAddr (And.intro @owp_field (And.intro @owp_indexAddr (And.intro @owp_index (And.intro @owp_lookup (And.intro @owp_mapUpdate (And.intro @owp_typeAssert (And.intro @owp_extract (And.intro @owp_callB (And.intro @Does_move (And.intro @Does_assign (And.intro @Does_pick (@Does_alloc)))))))))))))))))))))))))))))))))
theorem am3:type_of% (And.intro @Does_box (And.intro @Does_build (And.intro @Does_buildSlice (And.intro @Does_load (And.intro @Does_store (And.intro @Does_nilCheck (And.intro @Does_binOp (And.intro @Does_unOp (And.intro @Does_convert (And.intro @Does_makeInterface (And.intro @Does_makeMap (And.intro @Does_makeSlice (And.intro @Does_slice (And.intro @Does_fieldAddr (And.intro @Does_field (And.intro @Does_indexAddr (And.intro @Does_index (And.intro @Does_lookup (And.intro @Does_mapUpdate (And.intro @Does_typeAssert (And.intro @Does_extract (And.intro @Does_callB (And.intro @constPV_int (And.intro @constPV_bool (And.intro @constPV_str (And.intro @constPV_nilI (And.intro @constPV_ptr (And.intro @constPV_slice (And.intro @constPV_map (And.intro @constPV_agg (And.intro @upd_app (And.intro @updO_some (And.intro @updO_none (@slots0_app)))))))))))))))))))))))))))))))))):=And.intro @Does_box (And.intro @Does_build (And.intro @Does_buildSlice (And.intro @Does_load (And.intro @Does_store (And.intro @Does_nilCheck (And.intro @Does_binOp (And.intro @Does_unOp (And.intro @Does_convert (And.intro @Does_makeInterface (And.intro @Does_makeMap (And.intro @Does_makeSlice (And.intro @Does_slice (And.intro @Does_fieldAddr (And.intro @Does_field (And.intro @Does_indexAddr (And.intro @Does_index (And.intro @Does_lookup (And.intro @Does_mapUpdate (And.intro @Does_typeAssert (And.intro @Does_extract (And.intro @Does_callB (And.intro @constPV_int (And.intro @constPV_bool (And.intro @constPV_str (And.intro @constPV_nilI (And.intro @constPV_ptr (And.intro @constPV_slice (And.intro @constPV_map (And.intro @constPV_agg (And.intro @upd_app (And.intro @updO_some (And.intro @updO_none (@slots0_app)))))))))))))))))))))))))))))))))
theorem amb0:type_of% (And.intro @Nat.zero_add (And.intro @Int.natCast_nonneg (And.intro @decide_eq_true_eq (And.intro @decide_eq_false_iff_not (And.intro @Bool.not_eq_true (And.intro @Bool.not_eq_false (And.intro @not_false_eq_true (And.intro @not_true_eq_false (And.intro @Decidable.not_not (And.intro @Option.bind_some.{0,0} (And.intro @Option.bind_none.{0,0} (And.intro @Option.map_some.{0,0} (And.intro @Option.map_none.{0,0} (And.intro @Option.all_some.{0} (And.intro @Option.all_none.{0} (And.intro @Option.any_some.{0} (And.intro @Option.any_none.{0} (And.intro @Option.some.injEq.{0} (And.intro @Prod.mk.injEq.{0,0} (And.intro @List.map_cons.{0,0} (And.intro @List.map_nil.{0,0} (And.intro @List.length_cons.{0} (And.intro @List.length_nil.{0} (And.intro @List.length_map.{0,0} (And.intro @List.getD_cons_zero.{0} (And.intro @List.getD_cons_succ.{0} (And.intro @List.getElem?_cons_zero.{0} (And.intro @List.getElem?_cons_succ.{0} (And.intro @List.drop_zero.{0} (And.intro @List.drop_succ_cons.{0} (And.intro @List.drop_nil.{0} (And.intro @List.take_zero.{0} (And.intro @List.take_succ_cons.{0} (@List.take_nil.{0})))))))))))))))))))))))))))))))))):=And.intro @Nat.zero_add (And.intro @Int.natCast_nonneg (And.intro @decide_eq_true_eq (And.intro @decide_eq_false_iff_not (And.intro @Bool.not_eq_true (And.intro @Bool.not_eq_false (And.intro @not_false_eq_true (And.intro @not_true_eq_false (And.intro @Decidable.not_not (And.intro @Option.bind_some.{0,0} (And.intro @Option.bind_none.{0,0} (And.intro @Option.map_some.{0,0} (And.intro @Option.map_none.{0,0} (And.intro @Option.all_some.{0} (And.intro @Option.all_none.{0} (And.intro @Option.any_some.{0} (And.intro @Option.any_none.{0} (And.intro @Option.some.injEq.{0} (And.intro @Prod.mk.injEq.{0,0} (And.intro @List.map_cons.{0,0} (And.intro @List.map_nil.{0,0} (And.intro @List.length_cons.{0} (And.intro @List.length_nil.{0} (And.intro @List.length_map.{0,0} (And.intro @List.getD_cons_zero.{0} (And.intro @List.getD_cons_succ.{0} (And.intro @List.getElem?_cons_zero.{0} (And.intro @List.getElem?_cons_succ.{0} (And.intro @List.drop_zero.{0} (And.intro @List.drop_succ_cons.{0} (And.intro @List.drop_nil.{0} (And.intro @List.take_zero.{0} (And.intro @List.take_succ_cons.{0} (@List.take_nil.{0})))))))))))))))))))))))))))))))))
theorem amb1:type_of% (And.intro @List.head?_cons.{0} (And.intro @List.all_cons.{0} (And.intro @List.all_nil.{0} (And.intro @List.cons_append.{0} (And.intro @List.nil_append.{0} (And.intro @List.append_nil.{0} (And.intro @List.replicate_succ.{0} (And.intro @List.replicate_zero.{0} (And.intro @List.set_cons_zero.{0} (And.intro @List.set_cons_succ.{0} (And.intro @decide_true (And.intro @decide_false (And.intro @Bool.or_true (And.intro @Bool.true_or (And.intro @Bool.or_false (And.intro @Bool.false_or (And.intro @Bool.and_true (And.intro @Bool.true_and (And.intro @Bool.and_false (And.intro @Bool.false_and (And.intro @Bool.not_true (And.intro @Bool.not_false (And.intro @Bool.false_eq_true (And.intro @and_true (And.intro @true_and (And.intro @and_false (And.intro @false_and (And.intro @and_self (And.intro @or_true (And.intro @true_or (And.intro @or_false (And.intro @false_or (And.intro @List.not_mem_nil.{0} (@false_implies)))))))))))))))))))))))))))))))))):=And.intro @List.head?_cons.{0} (And.intro @List.all_cons.{0} (And.intro @List.all_nil.{0} (And.intro @List.cons_append.{0} (And.intro @List.nil_append.{0} (And.intro @List.append_nil.{0} (And.intro @List.replicate_succ.{0} (And.intro @List.replicate_zero.{0} (And.intro @List.set_cons_zero.{0} (And.intro @List.set_cons_succ.{0} (And.intro @decide_true (And.intro @decide_false (And.intro @Bool.or_true (And.intro @Bool.true_or (And.intro @Bool.or_false (And.intro @Bool.false_or (And.intro @Bool.and_true (And.intro @Bool.true_and (And.intro @Bool.and_false (And.intro @Bool.false_and (And.intro @Bool.not_true (And.intro @Bool.not_false (And.intro @Bool.false_eq_true (And.intro @and_true (And.intro @true_and (And.intro @and_false (And.intro @false_and (And.intro @and_self (And.intro @or_true (And.intro @true_or (And.intro @or_false (And.intro @false_or (And.intro @List.not_mem_nil.{0} (@false_implies)))))))))))))))))))))))))))))))))
theorem amb2:type_of% (And.intro @Int.toNat_natCast (And.intro @zB_0 (@List.getElem?_map.{0,0}))):=And.intro @Int.toNat_natCast (And.intro @zB_0 (@List.getElem?_map.{0,0}))
theorem amb3:type_of% (And.intro @andK_u64 (And.intro @orK_u64 (And.intro @xorK_u64 (And.intro @andnK_u64 (And.intro @andK_i64 (And.intro @orK_i64 (And.intro @xorK_i64 (And.intro @andnK_i64 (And.intro @andK_u8 (And.intro @orK_u8 (And.intro @xorK_u8 (@andnK_u8)))))))))))):=And.intro @andK_u64 (And.intro @orK_u64 (And.intro @xorK_u64 (And.intro @andnK_u64 (And.intro @andK_i64 (And.intro @orK_i64 (And.intro @xorK_i64 (And.intro @andnK_i64 (And.intro @andK_u8 (And.intro @orK_u8 (And.intro @xorK_u8 (@andnK_u8)))))))))))
theorem amb4:type_of% (And.intro @beq_iff_eq.{0} (And.intro @bne_iff_ne.{0} (And.intro @ne_eq.{1} (And.intro @beq_eq_false_iff_ne.{0} (@beq_self_eq_true.{0}))))):=And.intro @beq_iff_eq.{0} (And.intro @bne_iff_ne.{0} (And.intro @ne_eq.{1} (And.intro @beq_eq_false_iff_ne.{0} (@beq_self_eq_true.{0}))))
theorem hb0:type_of% (And.intro @not_true_eq_false (And.intro @not_false_eq_true (And.intro @decide_eq_true_eq (And.intro @decide_eq_false_iff_not (And.intro @Bool.or_eq_true (And.intro @Bool.or_eq_false_iff (And.intro @Bool.and_eq_true (And.intro @Bool.and_eq_false_iff (And.intro @Bool.not_eq_true' (And.intro @Bool.not_eq_false' (And.intro @Bool.not_eq_true (And.intro @Bool.not_eq_false (And.intro @bne_iff_ne.{0} (And.intro @bne_eq_false_iff_eq.{0} (And.intro @beq_iff_eq.{0} (And.intro @beq_eq_false_iff_ne.{0} (And.intro @ne_eq.{1} (And.intro @gt_iff_lt.{0} (And.intro @ge_iff_le.{0} (And.intro @Int.not_lt (And.intro @Int.not_le (@Decidable.not_not)))))))))))))))))))))):=And.intro @not_true_eq_false (And.intro @not_false_eq_true (And.intro @decide_eq_true_eq (And.intro @decide_eq_false_iff_not (And.intro @Bool.or_eq_true (And.intro @Bool.or_eq_false_iff (And.intro @Bool.and_eq_true (And.intro @Bool.and_eq_false_iff (And.intro @Bool.not_eq_true' (And.intro @Bool.not_eq_false' (And.intro @Bool.not_eq_true (And.intro @Bool.not_eq_false (And.intro @bne_iff_ne.{0} (And.intro @bne_eq_false_iff_eq.{0} (And.intro @beq_iff_eq.{0} (And.intro @beq_eq_false_iff_ne.{0} (And.intro @ne_eq.{1} (And.intro @gt_iff_lt.{0} (And.intro @ge_iff_le.{0} (And.intro @Int.not_lt (And.intro @Int.not_le (@Decidable.not_not)))))))))))))))))))))
section
variable {K:Slots→Heap→Prop}{Q:Post}{i j:Nat}
theorem ps1:Post.seq K Q .normal s h=K s h:=rfl
theorem ps2:Post.seq K Q .ret s h=Q .ret s h:=rfl
theorem ps3:Post.seq K Q (.exit i) s h=Q (.exit i) s h:=rfl
theorem ps4:Post.block j Q .normal s h=Q .normal s h:=rfl
theorem ps5:Post.block j Q .ret s h=Q .ret s h:=rfl
theorem ps6:Post.block j Q (.exit i) s h=if i=j then Q .normal s h else Q (.exit i) s h:=rfl
end
theorem pst0:type_of% (And.intro @ps1 (And.intro @ps2 (And.intro @ps3 (And.intro @ps4 (And.intro @ps5 @ps6))))):=And.intro @ps1 (And.intro @ps2 (And.intro @ps3 (And.intro @ps4 (And.intro @ps5 @ps6))))
end Go.AM
namespace Go.AM
set_option maxRecDepth 20000
theorem we0:type_of% (And.intro @Go.undef.eq_1 (And.intro @Go.AM.lwn.eq_1 (And.intro @Go.AM.lwn.eq_2 (And.intro @Go.AM.drn.eq_1 (And.intro @Go.AM.drn.eq_2 (And.intro @Go.AM.callee.eq_1 (And.intro @Go.AM.callee.eq_2 (And.intro @Go.AM.wantedB.eq_1 (And.intro @Go.AM.isW.eq_1 (And.intro @Go.AM.eff.eq_1 (And.intro @Go.AM.eff.eq_2 (And.intro @Go.AM.eff.eq_3 (And.intro @Go.AM.eff.eq_4 (And.intro @Go.AM.eff.eq_5 (And.intro @Go.AM.eff.eq_6 (And.intro @Go.AM.eff.eq_7 (And.intro @Go.AM.eff.eq_8 (And.intro @Go.AM.eff.eq_9 (And.intro @Go.AM.eff.eq_10 (And.intro @Go.AM.eff.eq_11 (And.intro @Go.AM.eff.eq_12 (And.intro @Go.AM.eff.eq_13 (And.intro @Go.AM.eff.eq_14 (And.intro @Go.AM.eff.eq_15 (And.intro @Go.AM.eff.eq_16 (And.intro @Go.AM.eff.eq_17 (And.intro @Go.AM.eff.eq_18 (And.intro @Go.AM.eff.eq_19 (And.intro @Go.AM.eff.eq_20 (And.intro @Go.AM.eff.eq_21 (And.intro @Go.AM.eff.eq_22 (And.intro @Go.AM.eff.eq_23 (And.intro @Go.AM.eff.eq_24 (And.intro @Go.AM.eff.eq_25 (And.intro @Go.AM.eff.eq_26 (And.intro @Go.AM.eff.eq_27 (And.intro @Go.AM.eff.eq_28 (And.intro @Go.AM.eff.eq_29 (And.intro @Go.AM.eff.eq_30 (@Go.AM.eff.eq_31)))))))))))))))))))))))))))))))))))))))):=And.intro @Go.undef.eq_1 (And.intro @Go.AM.lwn.eq_1 (And.intro @Go.AM.lwn.eq_2 (And.intro @Go.AM.drn.eq_1 (And.intro @Go.AM.drn.eq_2 (And.intro @Go.AM.callee.eq_1 (And.intro @Go.AM.callee.eq_2 (And.intro @Go.AM.wantedB.eq_1 (And.intro @Go.AM.isW.eq_1 (And.intro @Go.AM.eff.eq_1 (And.intro @Go.AM.eff.eq_2 (And.intro @Go.AM.eff.eq_3 (And.intro @Go.AM.eff.eq_4 (And.intro @Go.AM.eff.eq_5 (And.intro @Go.AM.eff.eq_6 (And.intro @Go.AM.eff.eq_7 (And.intro @Go.AM.eff.eq_8 (And.intro @Go.AM.eff.eq_9 (And.intro @Go.AM.eff.eq_10 (And.intro @Go.AM.eff.eq_11 (And.intro @Go.AM.eff.eq_12 (And.intro @Go.AM.eff.eq_13 (And.intro @Go.AM.eff.eq_14 (And.intro @Go.AM.eff.eq_15 (And.intro @Go.AM.eff.eq_16 (And.intro @Go.AM.eff.eq_17 (And.intro @Go.AM.eff.eq_18 (And.intro @Go.AM.eff.eq_19 (And.intro @Go.AM.eff.eq_20 (And.intro @Go.AM.eff.eq_21 (And.intro @Go.AM.eff.eq_22 (And.intro @Go.AM.eff.eq_23 (And.intro @Go.AM.eff.eq_24 (And.intro @Go.AM.eff.eq_25 (And.intro @Go.AM.eff.eq_26 (And.intro @Go.AM.eff.eq_27 (And.intro @Go.AM.eff.eq_28 (And.intro @Go.AM.eff.eq_29 (And.intro @Go.AM.eff.eq_30 (@Go.AM.eff.eq_31)))))))))))))))))))))))))))))))))))))))
theorem we1:type_of% (And.intro @Go.AM.eff.eq_32 (And.intro @Go.AM.pev.eq_1 (And.intro @Go.AM.pev.eq_2 (And.intro @Go.AM.pev.eq_3 (And.intro @Go.AM.pev.eq_4 (And.intro @Go.AM.retPost.eq_1 (And.intro @Go.AM.retPost.eq_2 (And.intro @Go.AM.retPost.eq_3 (And.intro @Go.AM.resAll.eq_1 (And.intro @Go.AM.resAll.eq_2 (And.intro @Go.AM.resP.eq_1 (And.intro @Go.AM.resP.eq_2 (And.intro @Go.AM.resV.eq_1 (And.intro @Go.AM.resV.eq_2 (And.intro @Go.AM.intP.eq_1 (And.intro @Go.AM.intP.eq_2 (And.intro @Go.AM.mkV.eq_1 (And.intro @Go.AM.putC.eq_1 (And.intro @Go.AM.pbin.eq_1 (And.intro @Go.AM.pbin.eq_2 (And.intro @Go.AM.pbin.eq_3 (And.intro @Go.AM.pbin.eq_4 (And.intro @Go.AM.pbin.eq_5 (And.intro @Go.AM.pbin.eq_6 (And.intro @Go.AM.pbin.eq_7 (And.intro @Go.AM.sbin.eq_1 (And.intro @Go.AM.sbin.eq_2 (And.intro @Go.AM.sbin.eq_3 (And.intro @Go.AM.sbin.eq_4 (And.intro @Go.AM.strsEq.eq_1 (And.intro @Go.AM.strsEq.eq_2 (And.intro @Go.AM.strsEq.eq_3 (And.intro @Go.AM.peq.eq_1 (And.intro @Go.AM.peq.eq_2 (And.intro @Go.AM.peq.eq_3 (And.intro @Go.AM.peq.eq_4 (And.intro @Go.AM.peq.eq_5 (And.intro @Go.AM.peq.eq_6 (And.intro @Go.AM.peq.eq_7 (@Go.AM.peq.eq_8)))))))))))))))))))))))))))))))))))))))):=And.intro @Go.AM.eff.eq_32 (And.intro @Go.AM.pev.eq_1 (And.intro @Go.AM.pev.eq_2 (And.intro @Go.AM.pev.eq_3 (And.intro @Go.AM.pev.eq_4 (And.intro @Go.AM.retPost.eq_1 (And.intro @Go.AM.retPost.eq_2 (And.intro @Go.AM.retPost.eq_3 (And.intro @Go.AM.resAll.eq_1 (And.intro @Go.AM.resAll.eq_2 (And.intro @Go.AM.resP.eq_1 (And.intro @Go.AM.resP.eq_2 (And.intro @Go.AM.resV.eq_1 (And.intro @Go.AM.resV.eq_2 (And.intro @Go.AM.intP.eq_1 (And.intro @Go.AM.intP.eq_2 (And.intro @Go.AM.mkV.eq_1 (And.intro @Go.AM.putC.eq_1 (And.intro @Go.AM.pbin.eq_1 (And.intro @Go.AM.pbin.eq_2 (And.intro @Go.AM.pbin.eq_3 (And.intro @Go.AM.pbin.eq_4 (And.intro @Go.AM.pbin.eq_5 (And.intro @Go.AM.pbin.eq_6 (And.intro @Go.AM.pbin.eq_7 (And.intro @Go.AM.sbin.eq_1 (And.intro @Go.AM.sbin.eq_2 (And.intro @Go.AM.sbin.eq_3 (And.intro @Go.AM.sbin.eq_4 (And.intro @Go.AM.strsEq.eq_1 (And.intro @Go.AM.strsEq.eq_2 (And.intro @Go.AM.strsEq.eq_3 (And.intro @Go.AM.peq.eq_1 (And.intro @Go.AM.peq.eq_2 (And.intro @Go.AM.peq.eq_3 (And.intro @Go.AM.peq.eq_4 (And.intro @Go.AM.peq.eq_5 (And.intro @Go.AM.peq.eq_6 (And.intro @Go.AM.peq.eq_7 (@Go.AM.peq.eq_8)))))))))))))))))))))))))))))))))))))))
theorem we2:type_of% (And.intro @Go.AM.peq.eq_9 (And.intro @Go.AM.peq.eq_10 (And.intro @Go.AM.peq.eq_11 (And.intro @Go.AM.peq.eq_12 (And.intro @Go.AM.peq.eq_13 (And.intro @Go.AM.peq.eq_14 (And.intro @Go.AM.peq.eq_15 (And.intro @Go.AM.pint.eq_1 (And.intro @Go.AM.pint.eq_2 (And.intro @Go.AM.pint.eq_3 (And.intro @Go.AM.pint.eq_4 (And.intro @Go.AM.pint.eq_5 (And.intro @Go.AM.pint.eq_6 (And.intro @Go.AM.pint.eq_7 (And.intro @Go.AM.pint.eq_8 (And.intro @Go.AM.pint.eq_9 (And.intro @Go.AM.pint.eq_10 (And.intro @Go.AM.pint.eq_11 (And.intro @Go.AM.pint.eq_12 (And.intro @Go.AM.pint.eq_13 (And.intro @Go.AM.pint.eq_14 (And.intro @Go.AM.pint.eq_15 (And.intro @Go.AM.pint.eq_16 (And.intro @Go.AM.pshift.eq_1 (And.intro @Go.AM.pshift.eq_2 (And.intro @Go.AM.pshift.eq_3 (And.intro @Go.AM.pstr.eq_1 (And.intro @Go.AM.pstr.eq_2 (And.intro @Go.AM.pstr.eq_3 (And.intro @Go.AM.pstr.eq_4 (And.intro @Go.AM.pstr.eq_5 (And.intro @Go.AM.pstr.eq_6 (And.intro @Go.AM.pstr.eq_7 (And.intro @Go.AM.pstr.eq_8 (And.intro @Go.AM.pun.eq_1 (And.intro @Go.AM.pun.eq_2 (And.intro @Go.AM.pun.eq_3 (And.intro @Go.AM.pun.eq_4 (And.intro @Go.AM.pconv.eq_1 (@Go.AM.pconv.eq_2)))))))))))))))))))))))))))))))))))))))):=And.intro @Go.AM.peq.eq_9 (And.intro @Go.AM.peq.eq_10 (And.intro @Go.AM.peq.eq_11 (And.intro @Go.AM.peq.eq_12 (And.intro @Go.AM.peq.eq_13 (And.intro @Go.AM.peq.eq_14 (And.intro @Go.AM.peq.eq_15 (And.intro @Go.AM.pint.eq_1 (And.intro @Go.AM.pint.eq_2 (And.intro @Go.AM.pint.eq_3 (And.intro @Go.AM.pint.eq_4 (And.intro @Go.AM.pint.eq_5 (And.intro @Go.AM.pint.eq_6 (And.intro @Go.AM.pint.eq_7 (And.intro @Go.AM.pint.eq_8 (And.intro @Go.AM.pint.eq_9 (And.intro @Go.AM.pint.eq_10 (And.intro @Go.AM.pint.eq_11 (And.intro @Go.AM.pint.eq_12 (And.intro @Go.AM.pint.eq_13 (And.intro @Go.AM.pint.eq_14 (And.intro @Go.AM.pint.eq_15 (And.intro @Go.AM.pint.eq_16 (And.intro @Go.AM.pshift.eq_1 (And.intro @Go.AM.pshift.eq_2 (And.intro @Go.AM.pshift.eq_3 (And.intro @Go.AM.pstr.eq_1 (And.intro @Go.AM.pstr.eq_2 (And.intro @Go.AM.pstr.eq_3 (And.intro @Go.AM.pstr.eq_4 (And.intro @Go.AM.pstr.eq_5 (And.intro @Go.AM.pstr.eq_6 (And.intro @Go.AM.pstr.eq_7 (And.intro @Go.AM.pstr.eq_8 (And.intro @Go.AM.pun.eq_1 (And.intro @Go.AM.pun.eq_2 (And.intro @Go.AM.pun.eq_3 (And.intro @Go.AM.pun.eq_4 (And.intro @Go.AM.pconv.eq_1 (@Go.AM.pconv.eq_2)))))))))))))))))))))))))))))))))))))))
theorem we3:type_of% (And.intro @Go.AM.pconv.eq_3 (And.intro @Go.AM.isShift.eq_1 (And.intro @Go.AM.isShift.eq_2 (And.intro @Go.AM.isShift.eq_3 (And.intro @Go.AM.isConstB.eq_1 (And.intro @Go.AM.isConstB.eq_2 (And.intro @Go.AM.app.eq_1 (And.intro @Go.AM.subS.eq_1 (And.intro @Go.AM.subS.eq_2 (And.intro @Go.AM.lay.eq_1 (And.intro @Go.AM.lay.eq_2 (And.intro @Go.AM.rowsOf.eq_1 (And.intro @Go.AM.rowsOf.eq_2 (And.intro @Go.AM.lkV.eq_1 (And.intro @Go.AM.lkV.eq_2 (And.intro @Go.AM.keyKind.eq_1 (And.intro @Go.AM.keyKind.eq_2 (And.intro @Go.AM.keyKind.eq_3 (And.intro @Go.AM.keyKind.eq_4 (And.intro @Go.AM.keyEq.eq_1 (And.intro @Go.AM.keyEq.eq_2 (And.intro @Go.AM.keyEq.eq_3 (And.intro @Go.AM.keyEq.eq_4 (And.intro @Go.AM.mfind.eq_1 (And.intro @Go.AM.mfind.eq_2 (And.intro @Go.AM.mput.eq_1 (And.intro @Go.AM.mput.eq_2 (And.intro @Go.AM.oInt.eq_1 (And.intro @Go.AM.oInt.eq_2 (And.intro @Go.AM.isZeroInt.eq_1 (And.intro @Go.AM.isZeroInt.eq_2 (And.intro @Go.IntKind.bits.eq_1 (And.intro @Go.IntKind.bits.eq_2 (And.intro @Go.IntKind.bits.eq_3 (And.intro @Go.IntKind.bits.eq_4 (And.intro @Go.IntKind.bits.eq_5 (And.intro @Go.IntKind.bits.eq_6 (And.intro @Go.IntKind.bits.eq_7 (@Go.IntKind.bits.eq_8))))))))))))))))))))))))))))))))))))))):=And.intro @Go.AM.pconv.eq_3 (And.intro @Go.AM.isShift.eq_1 (And.intro @Go.AM.isShift.eq_2 (And.intro @Go.AM.isShift.eq_3 (And.intro @Go.AM.isConstB.eq_1 (And.intro @Go.AM.isConstB.eq_2 (And.intro @Go.AM.app.eq_1 (And.intro @Go.AM.subS.eq_1 (And.intro @Go.AM.subS.eq_2 (And.intro @Go.AM.lay.eq_1 (And.intro @Go.AM.lay.eq_2 (And.intro @Go.AM.rowsOf.eq_1 (And.intro @Go.AM.rowsOf.eq_2 (And.intro @Go.AM.lkV.eq_1 (And.intro @Go.AM.lkV.eq_2 (And.intro @Go.AM.keyKind.eq_1 (And.intro @Go.AM.keyKind.eq_2 (And.intro @Go.AM.keyKind.eq_3 (And.intro @Go.AM.keyKind.eq_4 (And.intro @Go.AM.keyEq.eq_1 (And.intro @Go.AM.keyEq.eq_2 (And.intro @Go.AM.keyEq.eq_3 (And.intro @Go.AM.keyEq.eq_4 (And.intro @Go.AM.mfind.eq_1 (And.intro @Go.AM.mfind.eq_2 (And.intro @Go.AM.mput.eq_1 (And.intro @Go.AM.mput.eq_2 (And.intro @Go.AM.oInt.eq_1 (And.intro @Go.AM.oInt.eq_2 (And.intro @Go.AM.isZeroInt.eq_1 (And.intro @Go.AM.isZeroInt.eq_2 (And.intro @Go.IntKind.bits.eq_1 (And.intro @Go.IntKind.bits.eq_2 (And.intro @Go.IntKind.bits.eq_3 (And.intro @Go.IntKind.bits.eq_4 (And.intro @Go.IntKind.bits.eq_5 (And.intro @Go.IntKind.bits.eq_6 (And.intro @Go.IntKind.bits.eq_7 (@Go.IntKind.bits.eq_8))))))))))))))))))))))))))))))))))))))
theorem w0:type_of% (And.intro @am0 (And.intro @am1 (And.intro @am2 (And.intro @am3 (And.intro @amb0 (And.intro @amb1 (And.intro @amb2 (And.intro @amb3 (And.intro @amb4 (And.intro @pst0 (And.intro @we0 (And.intro @we1 (And.intro @we2 (And.intro @we3 (And.intro @forall_const.{0} (And.intro @forall_const.{1} (And.intro @exists_eq_left'.{1} (And.intro @implies_true.{0} (@implies_true.{1}))))))))))))))))))):=And.intro @am0 (And.intro @am1 (And.intro @am2 (And.intro @am3 (And.intro @amb0 (And.intro @amb1 (And.intro @amb2 (And.intro @amb3 (And.intro @amb4 (And.intro @pst0 (And.intro @we0 (And.intro @we1 (And.intro @we2 (And.intro @we3 (And.intro @forall_const.{0} (And.intro @forall_const.{1} (And.intro @exists_eq_left'.{1} (And.intro @implies_true.{0} (@implies_true.{1}))))))))))))))))))
end Go.AM
