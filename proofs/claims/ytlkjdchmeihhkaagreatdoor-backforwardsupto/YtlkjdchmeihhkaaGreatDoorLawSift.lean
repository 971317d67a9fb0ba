import Derived.Test.YtlkjdchmeihhkaaGreatDoorLawPeel
set_option autoImplicit true
set_option relaxedAutoImplicit true
set_option linter.all false
set_option maxRecDepth 20000
set_option maxHeartbeats 1000000
namespace Go.Proofs.YtlkjdchmeihhkaaGreatDoor
open Go Go.Sim
open Go.IntKind (wrap)
variable [Fu]
theorem Ar {R:Type} {step:Int→Option (tj Int R)} {p:Nat→Bool} {good:R} {bad:Nat→R} {s0:Int} (b:Bool) (n:Nat) (hb:b=true↔∃i,i<n∧p i=true) (h:∀i:Nat,i<n→step (i:Int)=some (bif p i then .done (bad i) else .next ((i+1:Nat):Int))) (hn:step (n:Int)=some (.done good)) (h0:s0=0): ∃r,Loop.run step s0=some r∧(b=false→r=good)∧(b=true→∃i,i<n∧r=bad i):=by subst h0;(have key:∀k a,n - a=k→a≤n→(∃i,a≤i∧i<n∧p i=true∧Loop.run step (a:Int)=some (bad i))∨((¬∃i,a≤i∧i<n∧p i=true)∧Loop.run step (a:Int)=some good):=by intro k;induction k with|zero=>intro a h1 h2;(have:a=n:=by omega);subst this;exact .inr ⟨λ⟨i,h4,h5,_⟩=>by omega,Mp hn⟩|succ k ih=>intro a h1 h2;have hs:=h a (by omega);cases hp:p a with|true=>rw[hp,Im] at hs;exact .inl ⟨a,IL _,by omega,hp,Mp hs⟩|false=>rw[hp,Il] at hs;rw[My hs];rcases ih (a+1) (by omega) (by omega) with⟨i,i1,i2,i3,i4⟩|⟨i1,i2⟩;exact .inl ⟨i,by omega,i2,i3,i4⟩;refine .inr ⟨λ⟨i,h4,h5,h6⟩=>i1 ⟨i,?_,h5,h6⟩,i2⟩;(have:i≠a:=λe=>by rw[e,hp] at h6;cases h6);omega);rcases key _ 0 rfl (by omega) with⟨i,i1,i2,i3,i4⟩|⟨i1,i2⟩;exact⟨_,i4,λhf=>(by have:=hb.2 ⟨i,i2,i3⟩;rw[hf] at this;cases this),λ_=>⟨i,i2,rfl⟩⟩;exact⟨_,i2,λ_=>rfl,λht=>by obtain⟨i,j1,j2⟩:=hb.1 ht;exact absurd ⟨i,by omega,j1,j2⟩ i1⟩
def P9 (a:List (List Int)) (t:List Int):Bool:=a.any λx=>x==t
def zC (w:aA) (t:List Int):Bool:=w.Epochs.any λe=>P9 e.Tags t
structure tS (w:aA):Prop where
 eps:w.Epochs.length≤1048576
 tags:∀e∈w.Epochs,e.Tags.length≤1048576
theorem xb {α:Type} {xs:List α} {p:α→Bool} (d:α):xs.any p=true↔∃i,i<xs.length∧p (xs.getD i d)=true:=by rw[List.any_eq_true];constructor;rintro⟨x,a,h⟩;obtain⟨i,b,rfl⟩:=JC a;exact⟨i,b,by simpa[b] using h⟩;rintro⟨i,b,h⟩;exact⟨xs[i],IF b,by simpa[b] using h⟩
theorem CC {ts:List (List Int)} {t:List Int} (hl:ts.length≤1048576):iX ts t=some (P9 ts t):=by
 unfold iX mL
 obtain⟨r,h1,h2,h3⟩:=Ar (step:=(λx29=>
  bif decide (x29<(ts.length:Int)) then
   (idx ts x29).bind λx37=>
   bif t==x37 then
    some (.done (.inr x29))
   else
    some (.next (wrap .i64 (x29+1)))
  else
   some (.done (.inl ())) : Int → Option (tj Int (Unit ⊕ Int)))) (p := λi => ts.getD i [] == t) (good := .inl ()) (bad := λi => .inr (i : Int)) (P9 ts t) ts.length (xb []) (by
   intro i hi
   have h1:decide ((i:Int)<(ts.length:Int))=true:=Io (by omega)
   rw[h1,Im,dk [] rfl hi]
   simp only[aB]
   have e:(t==ts.getD i [])=(ts.getD i []==t):=Bool.beq_comm
   rw[e,wrap64 (by omega)];cases ts.getD i []==t<;>rfl) (dS (Ip (by omega))) rfl
 rw[h1]
 cases hc:P9 ts t with
 |true=>obtain⟨i,_,rfl⟩:=h3 hc;simp
 |false=>rw[h2 hc];rfl
theorem yl {w:aA} (hw:tS w) {t:List Int}:lm w t=some (zC w t):=by
 unfold lm dz dW
 have he:=hw.eps
 obtain⟨r,h1,h2,h3⟩:=Ar (step:=(λx29=>
  bif decide (x29<(w.Epochs.length:Int)) then
   (idx w.Epochs x29).bind λx37=>
   (kS x37 t).bind λy40=>
   bif y40 then
    some (.done (.inr x29))
   else
    some (.next (wrap .i64 (x29+1)))
  else
   some (.done (.inl ())) : Int → Option (tj Int (Unit ⊕ Int)))) (p := λi => P9 (w.Epochs.getD i ⟨0, []⟩).Tags t) (good := .inl ()) (bad := λi => .inr (i : Int)) (zC w t) w.Epochs.length (xb (xs := w.Epochs) (p := λe => P9 e.Tags t) ⟨0, []⟩) (by
   intro i hi
   have h1:decide ((i:Int)<(w.Epochs.length:Int))=true:=Io (by omega)
   rw[h1,Im,dk ⟨0,[]⟩ rfl hi]
   simp only[aB]
   have ht:=hw.tags _ (IF hi)
   have e:w.Epochs.getD i ⟨0,[]⟩=w.Epochs[i]:=by simp[hi]
   unfold kS
   rw[e,CC ht]
   simp only[aB]
   rw[wrap64 (by omega)];cases P9 w.Epochs[i].Tags t<;>rfl) (dS (Ip (by omega))) rfl
 rw[h1]
 cases hc:zC w t with
 |true=>obtain⟨i,_,rfl⟩:=h3 hc;simp
 |false=>rw[h2 hc];rfl
theorem Hs {w:aA} (a:tS w) {t:List Int}:jH w t=some (zC w t):=by unfold jH;have b:=a.eps;rw[qk (p:=λi=>P9 (w.Epochs.getD i ⟨0,[]⟩).Tags t) (good:= .inl ()) (bad:= .inr true) (zC w t) 0 w.Epochs.length (by omega) (by have:=xb (xs:=w.Epochs) (p:=λe=>P9 e.Tags t) ⟨0,[]⟩;rw[show zC w t=w.Epochs.any (λe=>P9 e.Tags t) from rfl,this];simp) ?_ (dS (Ip (by omega))) (by rfl)];cases zC w t<;>rfl;intro i _ b;have c:decide ((i:Int)<(w.Epochs.length:Int))=true:=Io (by omega);have d:=a.tags _ (IF b);(have e:w.Epochs.getD i ⟨0,[]⟩=w.Epochs[i]:=by simp[b]);rw[e,c,Im];rw[qk (p:=λj=>w.Epochs[i].Tags.getD j []==t) (good:= .inl ()) (bad:= .inr true) (P9 w.Epochs[i].Tags t) 0 w.Epochs[i].Tags.length (by omega) (by have:=xb (xs:=w.Epochs[i].Tags) (p:=λx=>x==t) [];rw[show P9 w.Epochs[i].Tags t=w.Epochs[i].Tags.any (λx=>x==t) from rfl,this];simp) ?_ ?_ (by rfl)];rw[wrap64 (by omega)];cases P9 w.Epochs[i].Tags t<;>rfl;intro j _ a;have c:decide ((j:Int)<(w.Epochs[i].Tags.length:Int))=true:=Io (by omega);rw[cu b];simp only[aB];rw[c,Im,dk [] rfl a];simp only[aB];rw[wrap64 (by omega)];cases w.Epochs[i].Tags.getD j []==t<;>rfl;rw[cu b];simp only[aB];exact dS (Ip (by omega))
theorem CD (c:aL):iA c=eN c:=rfl
theorem pt (c:aL):∃b,eN c=some b:=by unfold eN;(have h:∀(x a b e:Int) (y:Bool),∃z,(bif y then(du x a b).bind λd=>some d else some false:Option Bool)=some z:=λx a b e y=>by cases y<;>exact⟨_,rfl⟩);obtain⟨a,d⟩:=h c.Left 1 8 0 ((c.Master.length:Int)==32);rw[d];simp only[aB];obtain⟨d,e⟩:=h c.Span 1 8 0 a;rw[e];simp only[aB];obtain⟨a,e⟩:=h c.Room 0 4096 0 d;rw[e];simp only[aB];obtain⟨z4,d⟩:=h c.Den 1 1000 0 a;rw[d];simp only[aB];obtain⟨a,d⟩:=h c.Num 0 c.Den 0 z4;rw[d];simp only[aB];obtain⟨d,e⟩:=h c.Noise 0 16 0 a;rw[e];simp only[aB];obtain⟨a,e⟩:=h c.Chunks 1 64 0 d;rw[e];simp only[aB];obtain⟨d,e⟩:=h c.Workers 1 64 0 a;rw[e];simp only[aB];obtain⟨a,e⟩:=h c.Cap 0 1024 0 d;rw[e];simp only[aB];obtain⟨f,d⟩:=h c.Shards 1 64 0 a;rw[d];exact⟨_,rfl⟩
theorem lT {α β:Type} [BEq α] [LawfulBEq α] {x y:α} {v:β} (h:(x==y)=false):∀{ps:List (α×β)},nJ x (eC y v ps)=nJ x ps|[]=>by simp[eC,nJ,h]|p::ps=>by unfold eC;cases a:(y==p.1) with|true=>have:=eq_of_beq a;simp only[Im];unfold nJ;rw[←this,h];rfl|false=>simp only[Il];unfold nJ;rw[lT h]
section
variable (P:Nat→aH×Int) (w:aA)
def z2 (i:Nat):Bool:=(P i).2==0
def rB (i:Nat):List Int:=(P i).1.Replay
def QH (r:List Int) (i:Nat):Bool:=(List.range i).any λk=>z2 P k&&rB P k==r
def C_ (i:Nat):Bool:=zC w (rB P i)||QH P (rB P i) i
def si (s:List aH×aI) (i:Nat):List aH×aI:=bif z2 P i then(bif C_ P w i then(s.1,{s.2 with Replays:=wrap .i64 (s.2.Replays+1)}) else(s.1++[(P i).1],s.2)) else(s.1,{s.2 with Malformed:=wrap .i64 (s.2.Malformed+1)})
def x2 (n:Nat):Nat→List aH×aI|0=>([],⟨(n:Int),0,0,0,0⟩)|i+1=>si P w (x2 n i) i
def gL:Nat→List (List Int×Int)|0=>[]|i+1=>bif z2 P i then eC (rB P i) (wrap .i64 (dh (rB P i) (gL i) 0+1)) (eC (rB P i) (dh (rB P i) (gL i) 0) (gL i)) else gL i
theorem vV (r:List Int) (i:Nat):QH P r (i+1)=(QH P r i||(z2 P i&&rB P i==r)):=by unfold QH;rw[Ky,List.any_append];simp
theorem ym:∀(i:Nat) (r:List Int),i<2^40→0≤dh r (gL P i) 0∧dh r (gL P i) 0≤i∧(decide (dh r (gL P i) 0>0)=QH P r i)|0,r,_=>by simp[gL,dh,nJ,QH]|i+1,r,h=>by obtain⟨a,b,b⟩:=ym i r (by omega);unfold gL;rw[vV];cases c:z2 P i with|false=>simp only[Il,LL,KL];exact⟨a,by omega,b⟩|true=>simp only[Im,JE];by_cases c:rB P i=r;subst c;(have e:dh (rB P i) (eC (rB P i) (wrap .i64 (dh (rB P i) (gL P i) 0+1)) (eC (rB P i) (dh (rB P i) (gL P i) 0) (gL P i))) 0=dh (rB P i) (gL P i) 0+1:=by rw[uh,wrap64 (by omega)]);refine⟨by rw[e];omega,by rw[e];omega,?_⟩;simp only[e];simp;omega;have d:(rB P i==r)=false:=LG c;have f:(r==rB P i)=false:=LG λe=>c e.symm;(have e:dh r (eC (rB P i) (wrap .i64 (dh (rB P i) (gL P i) 0+1)) (eC (rB P i) (dh (rB P i) (gL P i) 0) (gL P i))) 0=dh r (gL P i) 0:=by unfold dh;rw[lT f,lT f]);refine⟨by rw[e];exact a,by rw[e];omega,?_⟩;simp only[e];rw[d,KL];exact b
theorem DH (n:Nat):∀i,(x2 P w n i).1.length≤i|0=>by simp[x2]|i+1=>by have:=DH n i;unfold x2 si;cases z2 P i<;>cases C_ P w i<;>simp<;>omega
end
noncomputable def pu (c:aL) (w:aA) (b:aS):List aH×aI×Int:=bif !((eN c).getD false) then([],⟨0,0,0,0,0⟩,210) else bif (q5 c.Master b.Header.Epoch).2 != 0 then([],⟨0,0,0,0,0⟩,(q5 c.Master b.Header.Epoch).2) else((x2 (λi=>kh (q5 c.Master b.Header.Epoch).1 c.Left (b.Cells.getD i [])) w b.Cells.length b.Cells.length).1,(x2 (λi=>kh (q5 c.Master b.Header.Epoch).1 c.Left (b.Cells.getD i [])) w b.Cells.length b.Cells.length).2,0)
theorem yn {c:aL} {w:aA} {b:aS} (hw:tS w) (hc:∀x∈b.Cells,aV x) (hn:b.Cells.length<2^30):mM c w b=some (pu c w b):=by unfold mM pu;obtain⟨rb,hr⟩:=pt c;rw[hr];simp only[aB,Jb];cases rb with|false=>rfl|true=>simp only[IQ,Il];rw[Ak];simp only[aB];cases hk:((q5 c.Master b.Header.Epoch).2 != 0) with|true=>rfl|false=>simp only[Il];have hkl:=uX (key:=c.Master) (e:=b.Header.Epoch) (by simpa using hk);generalize (q5 c.Master b.Header.Epoch).1=key at*;obtain⟨Q,hQ⟩:∃Q:Nat→aH×Int,Q=λi=>kh key c.Left (b.Cells.getD i []):=⟨_,rfl⟩;(have hpe:∀i (hi:i<b.Cells.length),iW key c.Left (b.Cells.getD i [])=some (Q i):=λi hi=>by rw[hQ];(have e:b.Cells.getD i []=b.Cells[i]:=by simp[hi]);show _=some (kh key c.Left (b.Cells.getD i []));rw[e,yd (by omega) (hc _ (IF hi))]);rw[←hQ];rw[aY (λi=>((x2 Q w b.Cells.length i).1,(i:Int),(x2 Q w b.Cells.length i).2,gL Q i)) 0 b.Cells.length (r:=((x2 Q w b.Cells.length b.Cells.length).2,(x2 Q w b.Cells.length b.Cells.length).1)) (by omega) ?_ (dS (Ip (by show¬(b.Cells.length:Int)<(b.Cells.length:Int);omega))) (by rfl)];rfl;intro i _ hi;have h1:decide ((i:Int)<(b.Cells.length:Int))=true:=Io (by omega);simp only[h1,Im];rw[dk [] rfl hi];simp only[aB];rw[hpe i hi];simp only[aB];obtain⟨s1,s2,s3⟩:=ym Q i (rB Q i) (by omega);have hlen:=DH Q w b.Cells.length i;have hst:x2 Q w b.Cells.length (i+1)=si Q w (x2 Q w b.Cells.length i) i:=rfl;have hse:gL Q (i+1)=bif z2 Q i then eC (rB Q i) (wrap .i64 (dh (rB Q i) (gL Q i) 0+1)) (eC (rB Q i) (dh (rB Q i) (gL Q i) 0) (gL Q i)) else gL Q i:=rfl;rw[hst,hse,wrap64 (x:=(i:Int)+1) (by omega)];generalize x2 Q w b.Cells.length i=st at*;generalize gL Q i=se at*;unfold si C_;have ho:((Q i).2 != 0)= !z2 Q i:=rfl;rw[ho];cases z2 Q i with|false=>rfl|true=>have hrp:(Q i).1.Replay=rB Q i:=rfl;simp only[IQ,Il,Im];rw[hrp,yl hw,s3];cases QH Q (rB Q i) i with|true=>rw[La];rfl|false=>rw[KL];simp only[Il,aB];cases zC w (rB Q i) with|true=>rfl|false=>simp only[Il];rw[aW (by simp[dJ];omega)];rfl
def m8 (P:Nat→aH×Int) (w:aA) (i:Nat):Int:=bif z2 P i then(bif C_ P w i then 1 else 2) else 0
theorem Gm (P:Nat→aH×Int) (w:aA) (i:Nat):decide (m8 P w i>0)=z2 P i:=by unfold m8;cases z2 P i<;>cases C_ P w i<;>decide
theorem CE {key:List Int} {l:Int} {w:aA} {cs:List (List Int)} (a:key.length=32) (a:tS w) (b:∀x∈cs,aV x) (c:cs.length<2^30):
   gg key l w cs=some ((List.range cs.length).map (m8 (λi=>kh key l (cs.getD i [])) w),(List.range cs.length).map λi=>(kh key l (cs.getD i [])).1):=by
 unfold gg
 have c:dJ=17179869184:=rfl
 obtain⟨Q,d⟩:∃Q:Nat→aH×Int,Q=λi=>kh key l (cs.getD i []):=⟨_,rfl⟩
 have f:∀i (h:i<cs.length),gf key l (cs.getD i [])=some (Q i):=λi h=>by
   rw[d]
   have e:cs.getD i []=cs[i]:=by simp[h]
   show _=some (kh key l (cs.getD i []))
   rw[e,Gg (by omega) (b _ (IF h))]
 have b:(λi=>(kh key l (cs.getD i [])).1)=λi=>(Q i).1:=by rw[d]
 rw[←d,b]
 rw[aY (λi=>((List.range i).map (m8 Q w),(List.range i).map (λi=>(Q i).1),(i:Int))) 0 cs.length (r:=((List.range cs.length).map (m8 Q w),(List.range cs.length).map λi=>(Q i).1)) (by omega) ?_ (dS (Ip (by show¬(cs.length:Int)<(cs.length:Int);omega))) (by rfl)]
 · rfl
 · intro i _ h
   have b:decide ((i:Int)<(cs.length:Int))=true:=Io (by omega)
   simp only[b,Im]
   rw[dk [] rfl h]
   simp only[aB]
   rw[f i h]
   simp only[aB]
   have b:((Q i).2==0)=z2 Q i:=rfl
   have d:(Q i).1.Replay=rB Q i:=rfl
   rw[b,d,Hs a]
   simp only[aB]
   have a:(bif z2 Q i then
       ((bif zC w (rB Q i) then some 1 else some 2:Option Int).bind λb=>
       (Loop.run (S:=(Int×Int)) (R:=Int) (λ(d,e)=>
        bif decide (e<(i:Int)) then
         (((idx ((List.range i).map (m8 Q w)) e).bind λf=>
         ((bif decide (f>0) then
          (idx ((List.range i).map (λi=>(Q i).1)) e).bind λf=>
          some (f.Replay==rB Q i)
         else
          some false
          :Option Bool)).bind λf=>
         bif f then
          some 1
         else
          some d
          :Option Int)).bind λf=>
         some (.next (f,wrap .i64 (e+1)))
        else
         some (.done d)) (b,0)).bind λb=>
       some b)
     else
       some 0
       :Option Int)=some (m8 Q w i):=by
    have b:m8 Q w i=bif z2 Q i then(bif C_ Q w i then 1 else 2) else 0:=rfl
    rw[b]
    cases z2 Q i with
    |false=>rfl
    |true=>
     simp only[Im]
     have b:(bif zC w (rB Q i) then some 1 else some 2:Option Int)=some (bif zC w (rB Q i) then 1 else 2):=by cases zC w (rB Q i)<;>rfl
     rw[b]
     simp only[aB]
     rw[aY (λk=>((bif zC w (rB Q i)||QH Q (rB Q i) k then 1 else 2:Int),(k:Int))) 0 i (r:=(bif C_ Q w i then 1 else 2:Int)) (by omega) ?_ (dS (Ip (by show¬(i:Int)<(i:Int);omega))) (by show(_,_)=(bif _||false then _ else _,_);rw[KL];rfl)]
     · rfl
     · intro k _ d
       have e:decide ((k:Int)<(i:Int))=true:=Io (by omega)
       simp only[e,Im]
       rw[aK (i:=k) rfl (by simp;omega),sJ d]
       simp only[aB]
       rw[Gm,vV,dk (i:=k) nY rfl (by simp;omega)]
       have e:((List.range i).map (λi=>(Q i).1)).getD k nY=(Q k).1:=by simp[d]
       have d:(Q k).1.Replay=rB Q k:=rfl
       rw[e]
       simp only[aB]
       rw[d,wrap64 (by omega)]
       cases z2 Q k<;>cases (rB Q k==rB Q i)<;>cases zC w (rB Q i)<;>cases QH Q (rB Q i) k<;>rfl
   have d:=a
   cases d:z2 Q i with
   |false=>
    have b:m8 Q w i=0:=by unfold m8;rw[d];rfl
    simp only[Il,aB]
    rw[aW (by rw[c];simp;omega),aW (by rw[c];simp;omega)]
    simp only[aB]
    rw[wrap64 (by omega),Ky,Jn,Jn]
    simp only[IU,JT]
    rw[b];rfl
   |true=>
    rw[d] at a
    simp only[Im] at a⊢
    rw[a]
    simp only[aB]
    rw[aW (by rw[c];simp;omega),aW (by rw[c];simp;omega)]
    simp only[aB]
    rw[wrap64 (by omega),Ky,Jn,Jn];rfl
theorem Gn {c:aL} {w:aA} {b:aS} (d:tS w) (e:∀x∈b.Cells,aV x) (f:b.Cells.length<2^30):ja c w b=some (pu c w b):=by unfold ja pu;obtain⟨a,h⟩:=pt c;rw[CD,h];simp only[aB,Jb];cases a with|false=>rfl|true=>simp only[IQ,Il];rw[Ec];simp only[aB];cases h:((q5 c.Master b.Header.Epoch).2 != 0) with|true=>rfl|false=>simp only[Il];have a:=uX (key:=c.Master) (e:=b.Header.Epoch) (by simpa using h);generalize (q5 c.Master b.Header.Epoch).1=h at*;rw[CE a d e f];simp only[aB];obtain⟨Q,a⟩:∃Q:Nat→aH×Int,Q=λi=>kh h c.Left (b.Cells.getD i []):=⟨_,rfl⟩;(have d:(λi=>(kh h c.Left (b.Cells.getD i [])).1)=λi=>(Q i).1:=by rw[a]);rw[←a,d];rw[aY (λi=>((x2 Q w b.Cells.length i).1,(i:Int),(x2 Q w b.Cells.length i).2)) 0 b.Cells.length (r:=((x2 Q w b.Cells.length b.Cells.length).2,(x2 Q w b.Cells.length b.Cells.length).1)) (by omega) ?_ (dS (Ip (by simp))) (by rfl)];rfl;intro i _ a;have d:decide ((i:Int)<(((List.range b.Cells.length).map (m8 Q w)).length:Int))=true:=Io (by simp;omega);simp only[d,Im];rw[aK (i:=i) rfl (by simp;omega),sJ a];simp only[aB];have f:=DH Q w b.Cells.length i;have d:x2 Q w b.Cells.length (i+1)=si Q w (x2 Q w b.Cells.length i) i:=rfl;rw[d,wrap64 (x:=(i:Int)+1) (by omega),dk (i:=i) nY rfl (by simp;omega)];(have d:((List.range b.Cells.length).map (λi=>(Q i).1)).getD i nY=(Q i).1:=by simp[a]);rw[d];generalize x2 Q w b.Cells.length i=st at*;unfold si m8;simp only[aB];rw[aW (by simp[dJ];omega)];cases z2 Q i<;>cases C_ Q w i<;>rfl
end Go.Proofs.YtlkjdchmeihhkaaGreatDoor
