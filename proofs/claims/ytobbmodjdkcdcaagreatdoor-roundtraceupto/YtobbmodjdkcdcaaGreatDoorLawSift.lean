import Derived.Test.YtobbmodjdkcdcaaGreatDoorLawPeel
set_option linter.all false
set_option maxRecDepth 20000
set_option maxHeartbeats 1000000
namespace Go.Proofs.YtobbmodjdkcdcaaGreatDoor
open Go Go.Sim
variable [Fu]
theorem wP {R:Type} {step:Int→Option (Ctl Int R)} {p:Nat→Bool} {good:R} {bad:Nat→R} {s0:Int} (b:Bool) (n:Nat) (hb:b=true↔∃i,i<n∧p i=true) (h:∀i:Nat,i<n→step (i:Int)=some (bif p i then .done (bad i) else .next ((i+1:Nat):Int))) (hn:step (n:Int)=some (.done good)) (h0:s0=0): ∃r,Loop.run step s0=some r∧(b=false→r=good)∧(b=true→∃i,i<n∧r=bad i):=by subst h0;(have key:∀k a,n - a=k→a≤n→(∃i,a≤i∧i<n∧p i=true∧Loop.run step (a:Int)=some (bad i))∨((¬∃i,a≤i∧i<n∧p i=true)∧Loop.run step (a:Int)=some good):=by intro k;induction k with|zero=>intro a h1 h2;(have:a=n:=by omega);subst this;exact .inr ⟨λ⟨i,h4,h5,_⟩=>by omega,Jv hn⟩|succ k ih=>intro a h1 h2;have hs:=h a (by omega);cases hp:p a with|true=>rw[hp,FJ] at hs;exact .inl ⟨a,F9 _,by omega,hp,Jv hs⟩|false=>rw[hp,FI] at hs;rw[JB hs];rcases ih (a+1) (by omega) (by omega) with⟨i,i1,i2,i3,i4⟩|⟨i1,i2⟩;exact .inl ⟨i,by omega,i2,i3,i4⟩;refine .inr ⟨λ⟨i,h4,h5,h6⟩=>i1 ⟨i,?_,h5,h6⟩,i2⟩;(have:i≠a:=λe=>by rw[e,hp] at h6;cases h6);omega);rcases key _ 0 rfl (by omega) with⟨i,i1,i2,i3,i4⟩|⟨i1,i2⟩;exact⟨_,i4,λhf=>(by have:=hb.2 ⟨i,i2,i3⟩;rw[hf] at this;cases this),λ_=>⟨i,i2,rfl⟩⟩;exact⟨_,i2,λ_=>rfl,λht=>by obtain⟨i,j1,j2⟩:=hb.1 ht;exact absurd ⟨i,by omega,j1,j2⟩ i1⟩
def hasL (ts:List (List Int)) (t:List Int):Bool:=ts.any λx=>x==t
def hasS (w:ae) (t:List Int):Bool:=w.Epochs.any λe=>hasL e.Tags t
structure uJ (w:ae):Prop where
 eps:w.Epochs.length≤1048576
 tags:∀e∈w.Epochs,e.Tags.length≤1048576
theorem tF {α:Type} {xs:List α} {p:α→Bool} (d:α):xs.any p=true↔∃i,i<xs.length∧p (xs.getD i d)=true:=by rw[HT];constructor;rintro⟨x,hx,h⟩;obtain⟨i,hi,rfl⟩:=Ht hx;exact⟨i,hi,by simpa[hi] using h⟩;rintro⟨i,hi,h⟩;exact⟨xs[i],F7 hi,by simpa[hi] using h⟩
theorem zL {ts:List (List Int)} {t:List Int} (hl:ts.length≤1048576):f7 ts t=some (hasL ts t):=by
 unfold f7 kd
 obtain⟨r,h1,h2,h3⟩:=wP (step:=(λx29=>
  bif decide (x29<(ts.length:Int)) then
   (idx ts x29).bind λx37=>
   bif t==x37 then
    some (.done (.inr x29))
   else
    some (.next (IntKind.wrap .i64 (x29+1)))
  else
   some (.done (.inl ())) : Int → Option (Ctl Int (Unit ⊕ Int)))) (p := λi => ts.getD i [] == t) (good := .inl ()) (bad := λi => .inr (i : Int)) (hasL ts t) ts.length (tF []) (by
   intro i hi
   have h1:decide ((i:Int)<(ts.length:Int))=true:=FK (by omega)
   rw[h1,FJ,du [] rfl hi]
   simp only[ab]
   have e:(t==ts.getD i [])=(ts.getD i []==t):=Bool.beq_comm
   rw[e,wrap64 (by omega)];cases ts.getD i []==t<;>rfl) (cY (FL (by omega))) rfl
 rw[h1]
 cases hc:hasL ts t with
 |true=>obtain⟨i,_,rfl⟩:=h3 hc;simp
 |false=>rw[h2 hc];rfl
theorem A4 {w:ae} (hw:uJ w) {t:List Int}:ke w t=some (hasS w t):=by
 unfold ke cM cX
 have he:=hw.eps
 obtain⟨r,h1,h2,h3⟩:=wP (step:=(λx29=>
  bif decide (x29<(w.Epochs.length:Int)) then
   (idx w.Epochs x29).bind λx37=>
   (iR x37 t).bind λy40=>
   bif y40 then
    some (.done (.inr x29))
   else
    some (.next (IntKind.wrap .i64 (x29+1)))
  else
   some (.done (.inl ())) : Int → Option (Ctl Int (Unit ⊕ Int)))) (p := λi => hasL (w.Epochs.getD i ⟨0, []⟩).Tags t) (good := .inl ()) (bad := λi => .inr (i : Int)) (hasS w t) w.Epochs.length (tF (xs := w.Epochs) (p := λe => hasL e.Tags t) ⟨0, []⟩) (by
   intro i hi
   have h1:decide ((i:Int)<(w.Epochs.length:Int))=true:=FK (by omega)
   rw[h1,FJ,du ⟨0,[]⟩ rfl hi]
   simp only[ab]
   have ht:=hw.tags _ (F7 hi)
   have e:w.Epochs.getD i ⟨0,[]⟩=w.Epochs[i]:=by simp[hi]
   unfold iR
   rw[e,zL ht]
   simp only[ab]
   rw[wrap64 (by omega)];cases hasL w.Epochs[i].Tags t<;>rfl) (cY (FL (by omega))) rfl
 rw[h1]
 cases hc:hasS w t with
 |true=>obtain⟨i,_,rfl⟩:=h3 hc;simp
 |false=>rw[h2 hc];rfl
theorem EA {w:ae} (hw:uJ w) {t:List Int}:gO w t=some (hasS w t):=by unfold gO;have he:=hw.eps;rw[m6 (p:=λi=>hasL (w.Epochs.getD i ⟨0,[]⟩).Tags t) (good:= .inl ()) (bad:= .inr true) (hasS w t) 0 w.Epochs.length (by omega) (by have:=tF (xs:=w.Epochs) (p:=λe=>hasL e.Tags t) ⟨0,[]⟩;rw[show hasS w t=w.Epochs.any (λe=>hasL e.Tags t) from rfl,this];simp) ?_ (cY (FL (by omega))) (by rfl)];cases hasS w t<;>rfl;intro i _ hi;have h1:decide ((i:Int)<(w.Epochs.length:Int))=true:=FK (by omega);have ht:=hw.tags _ (F7 hi);(have e:w.Epochs.getD i ⟨0,[]⟩=w.Epochs[i]:=by simp[hi]);rw[e,h1,FJ];rw[m6 (p:=λj=>w.Epochs[i].Tags.getD j []==t) (good:= .inl ()) (bad:= .inr true) (hasL w.Epochs[i].Tags t) 0 w.Epochs[i].Tags.length (by omega) (by have:=tF (xs:=w.Epochs[i].Tags) (p:=λx=>x==t) [];rw[show hasL w.Epochs[i].Tags t=w.Epochs[i].Tags.any (λx=>x==t) from rfl,this];simp) ?_ ?_ (by rfl)];rw[wrap64 (by omega)];cases hasL w.Epochs[i].Tags t<;>rfl;intro j _ hj;have h2:decide ((j:Int)<(w.Epochs[i].Tags.length:Int))=true:=FK (by omega);rw[cw hi];simp only[ab];rw[h2,FJ,du [] rfl hj];simp only[ab];rw[wrap64 (by omega)];cases w.Epochs[i].Tags.getD j []==t<;>rfl;rw[cw hi];simp only[ab];exact cY (FL (by omega))
theorem Dv (c:aC):ik c=cO c:=rfl
theorem nM (c:aC):∃b,cO c=some b:=by unfold cO;(have key:∀(x a b e:Int) (y:Bool),∃z,(bif y then(cz x a b).bind λy4=>some y4 else some false:Option Bool)=some z:=λx a b e y=>by cases y<;>exact⟨_,rfl⟩);obtain⟨z1,e1⟩:=key c.Left 1 8 0 ((c.Master.length:Int)==32);rw[e1];simp only[ab];obtain⟨z2,e2⟩:=key c.Span 1 8 0 z1;rw[e2];simp only[ab];obtain⟨z3,e3⟩:=key c.Room 0 4096 0 z2;rw[e3];simp only[ab];obtain⟨z4,e4⟩:=key c.Den 1 1000 0 z3;rw[e4];simp only[ab];obtain⟨z5,e5⟩:=key c.Num 0 c.Den 0 z4;rw[e5];simp only[ab];obtain⟨z6,e6⟩:=key c.Noise 0 16 0 z5;rw[e6];simp only[ab];obtain⟨z7,e7⟩:=key c.Chunks 1 64 0 z6;rw[e7];simp only[ab];obtain⟨z8,e8⟩:=key c.Workers 1 64 0 z7;rw[e8];simp only[ab];obtain⟨z9,e9⟩:=key c.Cap 0 1024 0 z8;rw[e9];simp only[ab];obtain⟨z10,e10⟩:=key c.Shards 1 64 0 z9;rw[e10];exact⟨_,rfl⟩
theorem mT {α β:Type} [BEq α] [LawfulBEq α] {x y:α} {v:β} (h:(x==y)=false):∀{ps:List (α×β)},mfind x (mset y v ps)=mfind x ps|[]=>by simp[mset,mfind,h]|p::ps=>by unfold mset;cases hy:(y==p.1) with|true=>have:=eq_of_beq hy;simp only[FJ];unfold mfind;rw[←this,h];rfl|false=>simp only[FI];unfold mfind;rw[mT h]
section
variable (P:Nat→ai×Int) (w:ae)
def okS (i:Nat):Bool:=(P i).2==0
def rpS (i:Nat):List Int:=(P i).1.Replay
def anyS (r:List Int) (i:Nat):Bool:=(List.range i).any λk=>okS P k&&rpS P k==r
def hitS (i:Nat):Bool:=hasS w (rpS P i)||anyS P (rpS P i) i
def m7 (s:List ai×au) (i:Nat):List ai×au:=bif okS P i then(bif hitS P w i then(s.1,{s.2 with Replays:=IntKind.wrap .i64 (s.2.Replays+1)}) else(s.1++[(P i).1],s.2)) else(s.1,{s.2 with Malformed:=IntKind.wrap .i64 (s.2.Malformed+1)})
def stS (n:Nat):Nat→List ai×au|0=>([],⟨(n:Int),0,0,0,0⟩)|i+1=>m7 P w (stS n i) i
def iz:Nat→List (List Int×Int)|0=>[]|i+1=>bif okS P i then mset (rpS P i) (IntKind.wrap .i64 (dn (rpS P i) (iz i) 0+1)) (mset (rpS P i) (dn (rpS P i) (iz i) 0) (iz i)) else iz i
theorem wQ (r:List Int) (i:Nat):anyS P r (i+1)=(anyS P r i||(okS P i&&rpS P i==r)):=by unfold anyS;rw[Hx,List.any_append];simp
theorem uK:∀(i:Nat) (r:List Int),i<2^40→0≤dn r (iz P i) 0∧dn r (iz P i) 0≤i∧(decide (dn r (iz P i) 0>0)=anyS P r i)|0,r,_=>by simp[iz,dn,mfind,anyS]|i+1,r,h=>by obtain⟨h1,h2,h3⟩:=uK i r (by omega);unfold iz;rw[wQ];cases ho:okS P i with|false=>simp only[FI,IR,H4];exact⟨h1,by omega,h3⟩|true=>simp only[FJ,GV];by_cases hr:rpS P i=r;subst hr;(have e:dn (rpS P i) (mset (rpS P i) (IntKind.wrap .i64 (dn (rpS P i) (iz P i) 0+1)) (mset (rpS P i) (dn (rpS P i) (iz P i) 0) (iz P i))) 0=dn (rpS P i) (iz P i) 0+1:=by rw[vW,wrap64 (by omega)]);refine⟨by rw[e];omega,by rw[e];omega,?_⟩;simp only[e];simp;omega;have hb:(rpS P i==r)=false:=IF hr;have hb':(r==rpS P i)=false:=IF λe=>hr e.symm;(have e:dn r (mset (rpS P i) (IntKind.wrap .i64 (dn (rpS P i) (iz P i) 0+1)) (mset (rpS P i) (dn (rpS P i) (iz P i) 0) (iz P i))) 0=dn r (iz P i) 0:=by unfold dn;rw[mT hb',mT hb']);refine⟨by rw[e];exact h1,by rw[e];omega,?_⟩;simp only[e];rw[hb,H4];exact h3
theorem Dw (n:Nat):∀i,(stS P w n i).1.length≤i|0=>by simp[stS]|i+1=>by have:=Dw n i;unfold stS m7;cases okS P i<;>cases hitS P w i<;>simp<;>omega
end
noncomputable def qX (c:aC) (w:ae) (b:av):List ai×au×Int:=bif !((cO c).getD false) then([],⟨0,0,0,0,0⟩,210) else bif (keyS c.Master b.Header.Epoch).2 != 0 then([],⟨0,0,0,0,0⟩,(keyS c.Master b.Header.Epoch).2) else((stS (λi=>fW (keyS c.Master b.Header.Epoch).1 c.Left (b.Cells.getD i [])) w b.Cells.length b.Cells.length).1,(stS (λi=>fW (keyS c.Master b.Header.Epoch).1 c.Left (b.Cells.getD i [])) w b.Cells.length b.Cells.length).2,0)
theorem uL {c:aC} {w:ae} {b:av} (hw:uJ w) (hc:∀x∈b.Cells,aL x) (hn:b.Cells.length<2^30):kg c w b=some (qX c w b):=by unfold kg qX;obtain⟨rb,hr⟩:=nM c;rw[hr];simp only[ab,GR];cases rb with|false=>rfl|true=>simp only[Gr,FI];rw[Cq];simp only[ab];cases hk:((keyS c.Master b.Header.Epoch).2 != 0) with|true=>rfl|false=>simp only[FI];have hkl:=uv (key:=c.Master) (e:=b.Header.Epoch) (by simpa using hk);generalize (keyS c.Master b.Header.Epoch).1=key at*;obtain⟨Q,hQ⟩:∃Q:Nat→ai×Int,Q=λi=>fW key c.Left (b.Cells.getD i []):=⟨_,rfl⟩;(have hpe:∀i (hi:i<b.Cells.length),jc key c.Left (b.Cells.getD i [])=some (Q i):=λi hi=>by rw[hQ];(have e:b.Cells.getD i []=b.Cells[i]:=by simp[hi]);show _=some (fW key c.Left (b.Cells.getD i []));rw[e,A0 (by omega) (hc _ (F7 hi))]);rw[←hQ];rw[aP (λi=>((stS Q w b.Cells.length i).1,(i:Int),(stS Q w b.Cells.length i).2,iz Q i)) 0 b.Cells.length (r:=((stS Q w b.Cells.length b.Cells.length).2,(stS Q w b.Cells.length b.Cells.length).1)) (by omega) ?_ (cY (FL (by show¬(b.Cells.length:Int)<(b.Cells.length:Int);omega))) (by rfl)];rfl;intro i _ hi;have h1:decide ((i:Int)<(b.Cells.length:Int))=true:=FK (by omega);simp only[h1,FJ];rw[du [] rfl hi];simp only[ab];rw[hpe i hi];simp only[ab];obtain⟨s1,s2,s3⟩:=uK Q i (rpS Q i) (by omega);have hlen:=Dw Q w b.Cells.length i;have hst:stS Q w b.Cells.length (i+1)=m7 Q w (stS Q w b.Cells.length i) i:=rfl;have hse:iz Q (i+1)=bif okS Q i then mset (rpS Q i) (IntKind.wrap .i64 (dn (rpS Q i) (iz Q i) 0+1)) (mset (rpS Q i) (dn (rpS Q i) (iz Q i) 0) (iz Q i)) else iz Q i:=rfl;rw[hst,hse,wrap64 (x:=(i:Int)+1) (by omega)];generalize stS Q w b.Cells.length i=st at*;generalize iz Q i=se at*;unfold m7 hitS;have ho:((Q i).2 != 0)= !okS Q i:=rfl;rw[ho];cases okS Q i with|false=>rfl|true=>have hrp:(Q i).1.Replay=rpS Q i:=rfl;simp only[Gr,FI,FJ];rw[hrp,A4 hw,s3];cases anyS Q (rpS Q i) i with|true=>rw[H2];rfl|false=>rw[H4];simp only[FI,ab];cases hasS w (rpS Q i) with|true=>rfl|false=>simp only[FI];rw[aQ (by simp[room];omega)];rfl
def iD (P:Nat→ai×Int) (w:ae) (i:Nat):Int:=bif okS P i then(bif hitS P w i then 1 else 2) else 0
theorem zM (P:Nat→ai×Int) (w:ae) (i:Nat):decide (iD P w i>0)=okS P i:=by unfold iD;cases okS P i<;>cases hitS P w i<;>decide
theorem zO {key:List Int} {l:Int} {w:ae} {cs:List (List Int)} (hkl:key.length=32) (hw:uJ w) (hc:∀x∈cs,aL x) (hn:cs.length<2^30):
   fb key l w cs=some ((List.range cs.length).map (iD (λi=>fW key l (cs.getD i [])) w),(List.range cs.length).map λi=>(fW key l (cs.getD i [])).1):=by
 unfold fb
 have hroom:room=17179869184:=rfl
 obtain⟨Q,hQ⟩:∃Q:Nat→ai×Int,Q=λi=>fW key l (cs.getD i []):=⟨_,rfl⟩
 have hpe:∀i (hi:i<cs.length),fa key l (cs.getD i [])=some (Q i):=λi hi=>by
   rw[hQ]
   have e:cs.getD i []=cs[i]:=by simp[hi]
   show _=some (fW key l (cs.getD i []))
   rw[e,Dp (by omega) (hc _ (F7 hi))]
 have hq:(λi=>(fW key l (cs.getD i [])).1)=λi=>(Q i).1:=by rw[hQ]
 rw[←hQ,hq]
 rw[aP (λi=>((List.range i).map (iD Q w),(List.range i).map (λi=>(Q i).1),(i:Int))) 0 cs.length (r:=((List.range cs.length).map (iD Q w),(List.range cs.length).map λi=>(Q i).1)) (by omega) ?_ (cY (FL (by show¬(cs.length:Int)<(cs.length:Int);omega))) (by rfl)]
 · rfl
 · intro i _ hi
   have h1:decide ((i:Int)<(cs.length:Int))=true:=FK (by omega)
   simp only[h1,FJ]
   rw[du [] rfl hi]
   simp only[ab]
   rw[hpe i hi]
   simp only[ab]
   have ho:((Q i).2==0)=okS Q i:=rfl
   have hrp:(Q i).1.Replay=rpS Q i:=rfl
   rw[ho,hrp,EA hw]
   simp only[ab]
   have ef:(bif okS Q i then
       ((bif hasS w (rpS Q i) then some 1 else some 2:Option Int).bind λx3949=>
       (Loop.run (S:=(Int×Int)) (R:=Int) (λ(x4001,x4002)=>
        bif decide (x4002<(i:Int)) then
         (((idx ((List.range i).map (iD Q w)) x4002).bind λx4044=>
         ((bif decide (x4044>0) then
          (idx ((List.range i).map (λi=>(Q i).1)) x4002).bind λx4046=>
          some (x4046.Replay==rpS Q i)
         else
          some false
          :Option Bool)).bind λx4048=>
         bif x4048 then
          some 1
         else
          some x4001
          :Option Int)).bind λx4040=>
         some (.next (x4040,IntKind.wrap .i64 (x4002+1)))
        else
         some (.done x4001)) (x3949,0)).bind λx4026=>
       some x4026)
     else
       some 0
       :Option Int)=some (iD Q w i):=by
    have hf:iD Q w i=bif okS Q i then(bif hitS Q w i then 1 else 2) else 0:=rfl
    rw[hf]
    cases okS Q i with
    |false=>rfl
    |true=>
     simp only[FJ]
     have e0:(bif hasS w (rpS Q i) then some 1 else some 2:Option Int)=some (bif hasS w (rpS Q i) then 1 else 2):=by cases hasS w (rpS Q i)<;>rfl
     rw[e0]
     simp only[ab]
     rw[aP (λk=>((bif hasS w (rpS Q i)||anyS Q (rpS Q i) k then 1 else 2:Int),(k:Int))) 0 i (r:=(bif hitS Q w i then 1 else 2:Int)) (by omega) ?_ (cY (FL (by show¬(i:Int)<(i:Int);omega))) (by show(_,_)=(bif _||false then _ else _,_);rw[H4];rfl)]
     · rfl
     · intro k _ hk
       have h2:decide ((k:Int)<(i:Int))=true:=FK (by omega)
       simp only[h2,FJ]
       rw[ar (i:=k) rfl (by simp;omega),rL hk]
       simp only[ab]
       rw[zM,wQ,du (i:=k) mw rfl (by simp;omega)]
       have e3:((List.range i).map (λi=>(Q i).1)).getD k mw=(Q k).1:=by simp[hk]
       have e4:(Q k).1.Replay=rpS Q k:=rfl
       rw[e3]
       simp only[ab]
       rw[e4,wrap64 (by omega)]
       cases okS Q k<;>cases (rpS Q k==rpS Q i)<;>cases hasS w (rpS Q i)<;>cases anyS Q (rpS Q i) k<;>rfl
   have ef':=ef
   cases hok:okS Q i with
   |false=>
    have e0:iD Q w i=0:=by unfold iD;rw[hok];rfl
    simp only[FI,ab]
    rw[aQ (by rw[hroom];simp;omega),aQ (by rw[hroom];simp;omega)]
    simp only[ab]
    rw[wrap64 (by omega),Hx,Gy,Gy]
    simp only[Ge,Hl]
    rw[e0];rfl
   |true=>
    rw[hok] at ef
    simp only[FJ] at ef⊢
    rw[ef]
    simp only[ab]
    rw[aQ (by rw[hroom];simp;omega),aQ (by rw[hroom];simp;omega)]
    simp only[ab]
    rw[wrap64 (by omega),Hx,Gy,Gy];rfl
end Go.Proofs.YtobbmodjdkcdcaaGreatDoor
