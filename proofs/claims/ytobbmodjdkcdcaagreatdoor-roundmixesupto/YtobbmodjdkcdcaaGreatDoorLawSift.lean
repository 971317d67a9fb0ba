import Derived.Test.YtobbmodjdkcdcaaGreatDoorLawPeel
set_option autoImplicit true
set_option relaxedAutoImplicit true
set_option linter.all false
set_option maxRecDepth 20000
set_option maxHeartbeats 1000000
namespace Go.Proofs.YtobbmodjdkcdcaaGreatDoor
open Go Go.Sim
open Go.IntKind (wrap)
variable [Fu]
theorem yW {R:Type} {step:Int→Option (Qp Int R)} {p:Nat→Bool} {good:R} {bad:Nat→R} {s0:Int} (b:Bool) (n:Nat) (hb:b=true↔∃i,i<n∧p i=true) (h:∀i:Nat,i<n→step (i:Int)=some (bif p i then .done (bad i) else .next ((i+1:Nat):Int))) (hn:step (n:Int)=some (.done good)) (h0:s0=0): ∃r,Loop.run step s0=some r∧(b=false→r=good)∧(b=true→∃i,i<n∧r=bad i):=by subst h0;(have key:∀k a,n - a=k→a≤n→(∃i,a≤i∧i<n∧p i=true∧Loop.run step (a:Int)=some (bad i))∨((¬∃i,a≤i∧i<n∧p i=true)∧Loop.run step (a:Int)=some good):=by intro k;induction k with|zero=>intro a h1 h2;(have:a=n:=by omega);subst this;exact .inr ⟨λ⟨i,h4,h5,_⟩=>by omega,Lr hn⟩|succ k ih=>intro a h1 h2;have hs:=h a (by omega);cases hp:p a with|true=>rw[hp,Hn] at hs;exact .inl ⟨a,HK _,by omega,hp,Lr hs⟩|false=>rw[hp,Hm] at hs;rw[Ly hs];rcases ih (a+1) (by omega) (by omega) with⟨i,i1,i2,i3,i4⟩|⟨i1,i2⟩;exact .inl ⟨i,by omega,i2,i3,i4⟩;refine .inr ⟨λ⟨i,h4,h5,h6⟩=>i1 ⟨i,?_,h5,h6⟩,i2⟩;(have:i≠a:=λe=>by rw[e,hp] at h6;cases h6);omega);rcases key _ 0 rfl (by omega) with⟨i,i1,i2,i3,i4⟩|⟨i1,i2⟩;exact⟨_,i4,λhf=>(by have:=hb.2 ⟨i,i2,i3⟩;rw[hf] at this;cases this),λ_=>⟨i,i2,rfl⟩⟩;exact⟨_,i2,λ_=>rfl,λht=>by obtain⟨i,j1,j2⟩:=hb.1 ht;exact absurd ⟨i,by omega,j1,j2⟩ i1⟩
def RW (ts:List (List Int)) (t:List Int):Bool:=ts.any λx=>x==t
def Rr (w:aA) (t:List Int):Bool:=w.Epochs.any λe=>RW e.Tags t
structure uz (w:aA):Prop where
 eps:w.Epochs.length≤1048576
 tags:∀e∈w.Epochs,e.Tags.length≤1048576
theorem vS {α:Type} {xs:List α} {p:α→Bool} (d:α):xs.any p=true↔∃i,i<xs.length∧p (xs.getD i d)=true:=by rw[List.any_eq_true];constructor;rintro⟨x,hx,h⟩;obtain⟨i,hi,rfl⟩:=Ix hx;exact⟨i,hi,by simpa[hi] using h⟩;rintro⟨i,hi,h⟩;exact⟨xs[i],HG hi,by simpa[hi] using h⟩
theorem BI {ts:List (List Int)} {t:List Int} (hl:ts.length≤1048576):iy ts t=some (RW ts t):=by
 unfold iy l8
 obtain⟨r,h1,h2,h3⟩:=yW (step:=(λx29=>
  bif decide (x29<(ts.length:Int)) then
   (idx ts x29).bind λx37=>
   bif t==x37 then
    some (.done (.inr x29))
   else
    some (.next (wrap .i64 (x29+1)))
  else
   some (.done (.inl ())) : Int → Option (Qp Int (Unit ⊕ Int)))) (p := λi => ts.getD i [] == t) (good := .inl ()) (bad := λi => .inr (i : Int)) (RW ts t) ts.length (vS []) (by
   intro i hi
   have h1:decide ((i:Int)<(ts.length:Int))=true:=Ho (by omega)
   rw[h1,Hn,dn [] rfl hi]
   simp only[aB]
   have e:(t==ts.getD i [])=(ts.getD i []==t):=Bool.beq_comm
   rw[e,wrap64 (by omega)];cases ts.getD i []==t<;>rfl) (dF (Hp (by omega))) rfl
 rw[h1]
 cases hc:RW ts t with
 |true=>obtain⟨i,_,rfl⟩:=h3 hc;simp
 |false=>rw[h2 hc];rfl
theorem CP {w:aA} (hw:uz w) {t:List Int}:l9 w t=some (Rr w t):=by
 unfold l9 dj dM
 have he:=hw.eps
 obtain⟨r,h1,h2,h3⟩:=yW (step:=(λx29=>
  bif decide (x29<(w.Epochs.length:Int)) then
   (idx w.Epochs x29).bind λx37=>
   (kc x37 t).bind λy40=>
   bif y40 then
    some (.done (.inr x29))
   else
    some (.next (wrap .i64 (x29+1)))
  else
   some (.done (.inl ())) : Int → Option (Qp Int (Unit ⊕ Int)))) (p := λi => RW (w.Epochs.getD i ⟨0, []⟩).Tags t) (good := .inl ()) (bad := λi => .inr (i : Int)) (Rr w t) w.Epochs.length (vS (xs := w.Epochs) (p := λe => RW e.Tags t) ⟨0, []⟩) (by
   intro i hi
   have h1:decide ((i:Int)<(w.Epochs.length:Int))=true:=Ho (by omega)
   rw[h1,Hn,dn ⟨0,[]⟩ rfl hi]
   simp only[aB]
   have ht:=hw.tags _ (HG hi)
   have e:w.Epochs.getD i ⟨0,[]⟩=w.Epochs[i]:=by simp[hi]
   unfold kc
   rw[e,BI ht]
   simp only[aB]
   rw[wrap64 (by omega)];cases RW w.Epochs[i].Tags t<;>rfl) (dF (Hp (by omega))) rfl
 rw[h1]
 cases hc:Rr w t with
 |true=>obtain⟨i,_,rfl⟩:=h3 hc;simp
 |false=>rw[h2 hc];rfl
theorem Gh {w:aA} (hw:uz w) {t:List Int}:jl w t=some (Rr w t):=by unfold jl;have he:=hw.eps;rw[pj (p:=λi=>RW (w.Epochs.getD i ⟨0,[]⟩).Tags t) (good:= .inl ()) (bad:= .inr true) (Rr w t) 0 w.Epochs.length (by omega) (by have:=vS (xs:=w.Epochs) (p:=λe=>RW e.Tags t) ⟨0,[]⟩;rw[show Rr w t=w.Epochs.any (λe=>RW e.Tags t) from rfl,this];simp) ?_ (dF (Hp (by omega))) (by rfl)];cases Rr w t<;>rfl;intro i _ hi;have h1:decide ((i:Int)<(w.Epochs.length:Int))=true:=Ho (by omega);have ht:=hw.tags _ (HG hi);(have e:w.Epochs.getD i ⟨0,[]⟩=w.Epochs[i]:=by simp[hi]);rw[e,h1,Hn];rw[pj (p:=λj=>w.Epochs[i].Tags.getD j []==t) (good:= .inl ()) (bad:= .inr true) (RW w.Epochs[i].Tags t) 0 w.Epochs[i].Tags.length (by omega) (by have:=vS (xs:=w.Epochs[i].Tags) (p:=λx=>x==t) [];rw[show RW w.Epochs[i].Tags t=w.Epochs[i].Tags.any (λx=>x==t) from rfl,this];simp) ?_ ?_ (by rfl)];rw[wrap64 (by omega)];cases RW w.Epochs[i].Tags t<;>rfl;intro j _ hj;have h2:decide ((j:Int)<(w.Epochs[i].Tags.length:Int))=true:=Ho (by omega);rw[cq hi];simp only[aB];rw[h2,Hn,dn [] rfl hj];simp only[aB];rw[wrap64 (by omega)];cases w.Epochs[i].Tags.getD j []==t<;>rfl;rw[cq hi];simp only[aB];exact dF (Hp (by omega))
theorem BJ (c:aP):gM c=eh c:=rfl
theorem qd (c:aP):∃b,eh c=some b:=by unfold eh;(have key:∀(x a b e:Int) (y:Bool),∃z,(bif y then(dg x a b).bind λy4=>some y4 else some false:Option Bool)=some z:=λx a b e y=>by cases y<;>exact⟨_,rfl⟩);obtain⟨z1,e1⟩:=key c.Left 1 8 0 ((c.Master.length:Int)==32);rw[e1];simp only[aB];obtain⟨z2,e2⟩:=key c.Span 1 8 0 z1;rw[e2];simp only[aB];obtain⟨z3,e3⟩:=key c.Room 0 4096 0 z2;rw[e3];simp only[aB];obtain⟨z4,e4⟩:=key c.Den 1 1000 0 z3;rw[e4];simp only[aB];obtain⟨z5,e5⟩:=key c.Num 0 c.Den 0 z4;rw[e5];simp only[aB];obtain⟨z6,e6⟩:=key c.Noise 0 16 0 z5;rw[e6];simp only[aB];obtain⟨z7,e7⟩:=key c.Chunks 1 64 0 z6;rw[e7];simp only[aB];obtain⟨z8,e8⟩:=key c.Workers 1 64 0 z7;rw[e8];simp only[aB];obtain⟨z9,e9⟩:=key c.Cap 0 1024 0 z8;rw[e9];simp only[aB];obtain⟨f,d⟩:=key c.Shards 1 64 0 z9;rw[d];exact⟨_,rfl⟩
theorem oY {α β:Type} [BEq α] [LawfulBEq α] {x y:α} {v:β} (h:(x==y)=false):∀{ps:List (α×β)},P4 x (O4 y v ps)=P4 x ps|[]=>by simp[O4,P4,h]|p::ps=>by unfold O4;cases hy:(y==p.1) with|true=>have:=eq_of_beq hy;simp only[Hn];unfold P4;rw[←this,h];rfl|false=>simp only[Hm];unfold P4;rw[oY h]
section
variable (P:Nat→aH×Int) (w:aA)
def SD (i:Nat):Bool:=(P i).2==0
def QA (i:Nat):List Int:=(P i).1.Replay
def Tb (r:List Int) (i:Nat):Bool:=(List.range i).any λk=>SD P k&&QA P k==r
def Sv (i:Nat):Bool:=Rr w (QA P i)||Tb P (QA P i) i
def sg (s:List aH×aI) (i:Nat):List aH×aI:=bif SD P i then(bif Sv P w i then(s.1,{s.2 with Replays:=wrap .i64 (s.2.Replays+1)}) else(s.1++[(P i).1],s.2)) else(s.1,{s.2 with Malformed:=wrap .i64 (s.2.Malformed+1)})
def QZ (n:Nat):Nat→List aH×aI|0=>([],⟨(n:Int),0,0,0,0⟩)|i+1=>sg P w (QZ n i) i
def jH:Nat→List (List Int×Int)|0=>[]|i+1=>bif SD P i then O4 (QA P i) (wrap .i64 (ee (QA P i) (jH i) 0+1)) (O4 (QA P i) (ee (QA P i) (jH i) 0) (jH i)) else jH i
theorem yX (r:List Int) (i:Nat):Tb P r (i+1)=(Tb P r i||(SD P i&&QA P i==r)):=by unfold Tb;rw[Jw,List.any_append];simp
theorem wY:∀(i:Nat) (r:List Int),i<2^40→0≤ee r (jH P i) 0∧ee r (jH P i) 0≤i∧(decide (ee r (jH P i) 0>0)=Tb P r i)|0,r,_=>by simp[jH,ee,P4,Tb]|i+1,r,h=>by obtain⟨h1,h2,h3⟩:=wY i r (by omega);unfold jH;rw[yX];cases ho:SD P i with|false=>simp only[Hm,Kx,JR];exact⟨h1,by omega,h3⟩|true=>simp only[Hn,ID];by_cases hr:QA P i=r;subst hr;(have e:ee (QA P i) (O4 (QA P i) (wrap .i64 (ee (QA P i) (jH P i) 0+1)) (O4 (QA P i) (ee (QA P i) (jH P i) 0) (jH P i))) 0=ee (QA P i) (jH P i) 0+1:=by rw[xY,wrap64 (by omega)]);refine⟨by rw[e];omega,by rw[e];omega,?_⟩;simp only[e];simp;omega;have hb:(QA P i==r)=false:=Kt hr;have hb':(r==QA P i)=false:=Kt λe=>hr e.symm;(have e:ee r (O4 (QA P i) (wrap .i64 (ee (QA P i) (jH P i) 0+1)) (O4 (QA P i) (ee (QA P i) (jH P i) 0) (jH P i))) 0=ee r (jH P i) 0:=by unfold ee;rw[oY hb',oY hb']);refine⟨by rw[e];exact h1,by rw[e];omega,?_⟩;simp only[e];rw[hb,JR];exact h3
theorem CQ (n:Nat):∀i,(QZ P w n i).1.length≤i|0=>by simp[QZ]|i+1=>by have:=CQ n i;unfold QZ sg;cases SD P i<;>cases Sv P w i<;>simp<;>omega
end
noncomputable def ra (c:aP) (w:aA) (b:aV):List aH×aI×Int:=bif !((eh c).getD false) then([],⟨0,0,0,0,0⟩,210) else bif (QI c.Master b.Header.Epoch).2 != 0 then([],⟨0,0,0,0,0⟩,(QI c.Master b.Header.Epoch).2) else((QZ (λi=>jO (QI c.Master b.Header.Epoch).1 c.Left (b.Cells.getD i [])) w b.Cells.length b.Cells.length).1,(QZ (λi=>jO (QI c.Master b.Header.Epoch).1 c.Left (b.Cells.getD i [])) w b.Cells.length b.Cells.length).2,0)
theorem CR {c:aP} {w:aA} {b:aV} (hw:uz w) (hc:∀x∈b.Cells,aT x) (hn:b.Cells.length<2^30):ma c w b=some (ra c w b):=by unfold ma ra;obtain⟨rb,hr⟩:=qd c;rw[hr];simp only[aB,If];cases rb with|false=>rfl|true=>simp only[HU,Hm];rw[Eb];simp only[aB];cases hk:((QI c.Master b.Header.Epoch).2 != 0) with|true=>rfl|false=>simp only[Hm];have hkl:=Br (key:=c.Master) (e:=b.Header.Epoch) (by simpa using hk);generalize (QI c.Master b.Header.Epoch).1=key at*;obtain⟨Q,hQ⟩:∃Q:Nat→aH×Int,Q=λi=>jO key c.Left (b.Cells.getD i []):=⟨_,rfl⟩;(have hpe:∀i (hi:i<b.Cells.length),kw key c.Left (b.Cells.getD i [])=some (Q i):=λi hi=>by rw[hQ];(have e:b.Cells.getD i []=b.Cells[i]:=by simp[hi]);show _=some (jO key c.Left (b.Cells.getD i []));rw[e,CL (by omega) (hc _ (HG hi))]);rw[←hQ];rw[aY (λi=>((QZ Q w b.Cells.length i).1,(i:Int),(QZ Q w b.Cells.length i).2,jH Q i)) 0 b.Cells.length (r:=((QZ Q w b.Cells.length b.Cells.length).2,(QZ Q w b.Cells.length b.Cells.length).1)) (by omega) ?_ (dF (Hp (by show¬(b.Cells.length:Int)<(b.Cells.length:Int);omega))) (by rfl)];rfl;intro i _ hi;have h1:decide ((i:Int)<(b.Cells.length:Int))=true:=Ho (by omega);simp only[h1,Hn];rw[dn [] rfl hi];simp only[aB];rw[hpe i hi];simp only[aB];obtain⟨s1,s2,s3⟩:=wY Q i (QA Q i) (by omega);have hlen:=CQ Q w b.Cells.length i;have hst:QZ Q w b.Cells.length (i+1)=sg Q w (QZ Q w b.Cells.length i) i:=rfl;have hse:jH Q (i+1)=bif SD Q i then O4 (QA Q i) (wrap .i64 (ee (QA Q i) (jH Q i) 0+1)) (O4 (QA Q i) (ee (QA Q i) (jH Q i) 0) (jH Q i)) else jH Q i:=rfl;rw[hst,hse,wrap64 (x:=(i:Int)+1) (by omega)];generalize QZ Q w b.Cells.length i=st at*;generalize jH Q i=se at*;unfold sg Sv;have ho:((Q i).2 != 0)= !SD Q i:=rfl;rw[ho];cases SD Q i with|false=>rfl|true=>have hrp:(Q i).1.Replay=QA Q i:=rfl;simp only[HU,Hm,Hn];rw[hrp,CP hw,s3];cases Tb Q (QA Q i) i with|true=>rw[Kh];rfl|false=>rw[JR];simp only[Hm,aB];cases Rr w (QA Q i) with|true=>rfl|false=>simp only[Hm];rw[aW (by simp[F_];omega)];rfl
def qw (P:Nat→aH×Int) (w:aA) (i:Nat):Int:=bif SD P i then(bif Sv P w i then 1 else 2) else 0
theorem Fc (P:Nat→aH×Int) (w:aA) (i:Nat):decide (qw P w i>0)=SD P i:=by unfold qw;cases SD P i<;>cases Sv P w i<;>decide
theorem Fd {key:List Int} {l:Int} {w:aA} {cs:List (List Int)} (hkl:key.length=32) (hw:uz w) (hc:∀x∈cs,aT x) (hn:cs.length<2^30):
   iH key l w cs=some ((List.range cs.length).map (qw (λi=>jO key l (cs.getD i [])) w),(List.range cs.length).map λi=>(jO key l (cs.getD i [])).1):=by
 unfold iH
 have hroom:F_=17179869184:=rfl
 obtain⟨Q,hQ⟩:∃Q:Nat→aH×Int,Q=λi=>jO key l (cs.getD i []):=⟨_,rfl⟩
 have hpe:∀i (hi:i<cs.length),fP key l (cs.getD i [])=some (Q i):=λi hi=>by
   rw[hQ]
   have e:cs.getD i []=cs[i]:=by simp[hi]
   show _=some (jO key l (cs.getD i []))
   rw[e,E7 (by omega) (hc _ (HG hi))]
 have hq:(λi=>(jO key l (cs.getD i [])).1)=λi=>(Q i).1:=by rw[hQ]
 rw[←hQ,hq]
 rw[aY (λi=>((List.range i).map (qw Q w),(List.range i).map (λi=>(Q i).1),(i:Int))) 0 cs.length (r:=((List.range cs.length).map (qw Q w),(List.range cs.length).map λi=>(Q i).1)) (by omega) ?_ (dF (Hp (by show¬(cs.length:Int)<(cs.length:Int);omega))) (by rfl)]
 · rfl
 · intro i _ hi
   have h1:decide ((i:Int)<(cs.length:Int))=true:=Ho (by omega)
   simp only[h1,Hn]
   rw[dn [] rfl hi]
   simp only[aB]
   rw[hpe i hi]
   simp only[aB]
   have ho:((Q i).2==0)=SD Q i:=rfl
   have hrp:(Q i).1.Replay=QA Q i:=rfl
   rw[ho,hrp,Gh hw]
   simp only[aB]
   have ef:(bif SD Q i then
       ((bif Rr w (QA Q i) then some 1 else some 2:Option Int).bind λx3949=>
       (Loop.run (S:=(Int×Int)) (R:=Int) (λ(x4001,x4002)=>
        bif decide (x4002<(i:Int)) then
         (((idx ((List.range i).map (qw Q w)) x4002).bind λx4044=>
         ((bif decide (x4044>0) then
          (idx ((List.range i).map (λi=>(Q i).1)) x4002).bind λx4046=>
          some (x4046.Replay==QA Q i)
         else
          some false
          :Option Bool)).bind λx4048=>
         bif x4048 then
          some 1
         else
          some x4001
          :Option Int)).bind λx4040=>
         some (.next (x4040,wrap .i64 (x4002+1)))
        else
         some (.done x4001)) (x3949,0)).bind λx4026=>
       some x4026)
     else
       some 0
       :Option Int)=some (qw Q w i):=by
    have hf:qw Q w i=bif SD Q i then(bif Sv Q w i then 1 else 2) else 0:=rfl
    rw[hf]
    cases SD Q i with
    |false=>rfl
    |true=>
     simp only[Hn]
     have e0:(bif Rr w (QA Q i) then some 1 else some 2:Option Int)=some (bif Rr w (QA Q i) then 1 else 2):=by cases Rr w (QA Q i)<;>rfl
     rw[e0]
     simp only[aB]
     rw[aY (λk=>((bif Rr w (QA Q i)||Tb Q (QA Q i) k then 1 else 2:Int),(k:Int))) 0 i (r:=(bif Sv Q w i then 1 else 2:Int)) (by omega) ?_ (dF (Hp (by show¬(i:Int)<(i:Int);omega))) (by show(_,_)=(bif _||false then _ else _,_);rw[JR];rfl)]
     · rfl
     · intro k _ hk
       have h2:decide ((k:Int)<(i:Int))=true:=Ho (by omega)
       simp only[h2,Hn]
       rw[aJ (i:=k) rfl (by simp;omega),ry hk]
       simp only[aB]
       rw[Fc,yX,dn (i:=k) m7 rfl (by simp;omega)]
       have e3:((List.range i).map (λi=>(Q i).1)).getD k m7=(Q k).1:=by simp[hk]
       have e4:(Q k).1.Replay=QA Q k:=rfl
       rw[e3]
       simp only[aB]
       rw[e4,wrap64 (by omega)]
       cases SD Q k<;>cases (QA Q k==QA Q i)<;>cases Rr w (QA Q i)<;>cases Tb Q (QA Q i) k<;>rfl
   have ef':=ef
   cases hok:SD Q i with
   |false=>
    have e0:qw Q w i=0:=by unfold qw;rw[hok];rfl
    simp only[Hm,aB]
    rw[aW (by rw[hroom];simp;omega),aW (by rw[hroom];simp;omega)]
    simp only[aB]
    rw[wrap64 (by omega),Jw,Im,Im]
    simp only[HX,IX]
    rw[e0];rfl
   |true=>
    rw[hok] at ef
    simp only[Hn] at ef⊢
    rw[ef]
    simp only[aB]
    rw[aW (by rw[hroom];simp;omega),aW (by rw[hroom];simp;omega)]
    simp only[aB]
    rw[wrap64 (by omega),Jw,Im,Im];rfl
theorem Fe {c:aP} {w:aA} {b:aV} (hw:uz w) (hc:∀x∈b.Cells,aT x) (hn:b.Cells.length<2^30):iI c w b=some (ra c w b):=by unfold iI ra;obtain⟨rb,hr⟩:=qd c;rw[BJ,hr];simp only[aB,If];cases rb with|false=>rfl|true=>simp only[HU,Hm];rw[Gg];simp only[aB];cases hk:((QI c.Master b.Header.Epoch).2 != 0) with|true=>rfl|false=>simp only[Hm];have a:=Br (key:=c.Master) (e:=b.Header.Epoch) (by simpa using hk);generalize (QI c.Master b.Header.Epoch).1=key at*;rw[Fd a hw hc hn];simp only[aB];obtain⟨Q,hQ⟩:∃Q:Nat→aH×Int,Q=λi=>jO key c.Left (b.Cells.getD i []):=⟨_,rfl⟩;(have hq:(λi=>(jO key c.Left (b.Cells.getD i [])).1)=λi=>(Q i).1:=by rw[hQ]);rw[←hQ,hq];rw[aY (λi=>((QZ Q w b.Cells.length i).1,(i:Int),(QZ Q w b.Cells.length i).2)) 0 b.Cells.length (r:=((QZ Q w b.Cells.length b.Cells.length).2,(QZ Q w b.Cells.length b.Cells.length).1)) (by omega) ?_ (dF (Hp (by simp))) (by rfl)];rfl;intro i _ hi;have h1:decide ((i:Int)<(((List.range b.Cells.length).map (qw Q w)).length:Int))=true:=Ho (by simp;omega);simp only[h1,Hn];rw[aJ (i:=i) rfl (by simp;omega),ry hi];simp only[aB];have f:=CQ Q w b.Cells.length i;have d:QZ Q w b.Cells.length (i+1)=sg Q w (QZ Q w b.Cells.length i) i:=rfl;rw[d,wrap64 (x:=(i:Int)+1) (by omega),dn (i:=i) m7 rfl (by simp;omega)];(have e3:((List.range b.Cells.length).map (λi=>(Q i).1)).getD i m7=(Q i).1:=by simp[hi]);rw[e3];generalize QZ Q w b.Cells.length i=st at*;unfold sg qw;simp only[aB];rw[aW (by simp[F_];omega)];cases SD Q i<;>cases Sv Q w i<;>rfl
end Go.Proofs.YtobbmodjdkcdcaaGreatDoor
