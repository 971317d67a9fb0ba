import Derived.Test.YtobbmodjdkcdcaaGreatDoorLawOnion
set_option linter.all false
set_option maxRecDepth 20000
set_option maxHeartbeats 1000000
namespace Go.Proofs.YtobbmodjdkcdcaaGreatDoor
open Go Go.Sim
variable [Fu]
theorem Dm:∀a:Fin 256,shlI .i64 ((a.val:Nat):Int) 8=((256*a.val:Nat):Int):=by decide+kernel
theorem Fb {a b:Nat} (ha:a<256) (hb:b<256):orI .i64 ((256*a:Nat):Int) (b:Int)=((256*a+b:Nat):Int):=by have h:orI .i64 ((256*a:Nat):Int) (b:Int)=IntKind.wrap .i64 ((BitVec.ofInt 64 ((256*a:Nat):Int)|||BitVec.ofInt 64 (b:Int)).toNat:Int):=rfl;rw[h];(have h2:(BitVec.ofInt 64 ((256*a:Nat):Int)|||BitVec.ofInt 64 (b:Int)).toNat=256*a+b:=by rw[BitVec.toNat_or,GX,GX];(have h1:(((256*a:Nat):Int)%((2^64:Nat):Int)).toNat=256*a:=by omega);(have h2:((b:Int)%((2^64:Nat):Int)).toNat=b:=by omega);rw[h1,h2];have:=Ia (b:=b) (i:=8) (by omega) a;rw[I6] at this;(have e:256*a=a*2^8:=by omega);rw[e];exact this.symm);rw[h2,wrap64 (by omega)]
def mw:ai:=⟨[],List.replicate 16 0⟩
def lenS (p:List Int):Nat:=256*(p.getD 0 0).toNat+(p.getD 1 0).toNat
def badS (l:Int) (p:List Int):Bool:=decide (lenS p>bo l - 34)||nz (p.drop (2+lenS p))
def innS (p:List Int):List Int:=(p.take (2+lenS p)).drop 2
theorem Dn {p:List Int} (hb:aL p):orI .i64 (shlI .i64 (IntKind.wrap .i64 (p.getD 0 0)) 8) (IntKind.wrap .i64 (p.getD 1 0))=(lenS p:Int):=by have h0:=fi hb 0;have h1:=fi hb 1;unfold lenS;generalize p.getD 0 0=x at*;generalize p.getD 1 0=y at*;obtain⟨a,rfl⟩:∃a:Nat,x=a:=⟨x.toNat,by omega⟩;obtain⟨b,rfl⟩:∃b:Nat,y=b:=⟨y.toNat,by omega⟩;rw[wrap64 (by omega),wrap64 (by omega),Dm ⟨a,by omega⟩,Fb (by omega) (by omega)];simp
theorem xR {p:List Int} (hb:aL p):lenS p≤65535:=by have h0:=fi hb 0;have h1:=fi hb 1;unfold lenS;omega
theorem xS {p:List Int} {l:Int} (hl:1≤l∧l≤8) (hs:(bo l:Int)=48+34*l) (hp:p.length=bo l - 32) (hb:aL p): iP p l=some (bif badS l p then([],false) else(innS p,true)):=by unfold iP lL;rw[qj];simp only[ab];rw[ar (z:=0) (i:=0) rfl (by omega),ar (z:=1) (i:=1) rfl (by omega)];simp only[ab];rw[Dn hb];have hn:=xR hb;have hB:badS l p=(decide (lenS p>bo l - 34)||nz (p.drop (2+lenS p))):=rfl;have hI:innS p=(p.take (2+lenS p)).drop 2:=rfl;rw[hB,hI];generalize lenS p=n at*;rw[wrap64 (x:=(bo l:Int) - 34) (by omega)];cases hc:decide (n>bo l - 34) with|true=>have:decide ((n:Int)>(bo l:Int) - 34)=true:=FK (by have:=FO hc;omega);rw[this];rfl|false=>have hc':=F5 hc;have:decide ((n:Int)>(bo l:Int) - 34)=false:=FL (by omega);rw[this,FI,wrap64 (by omega),iX (l:=2+(n:Int)) (i:=2+n) (j:=p.length) (by omega) rfl (by omega) (F9 _)];simp only[ab,Gm,HG];generalize hx:p.drop (2+n)=x;(have hxl:x.length≤p.length:=by rw[←hx,Gh];omega);rw[m6 (p:=λi=>x.getD i 0 != 0) (good:= .inl ()) (bad:= .inr ([],false)) (nz x) 0 x.length (by omega) (by have:=xN (l:=x) (a:=0);rw[G9] at this;exact this) ?_ (cY (FL (by omega))) (by rfl)];(cases nz x with|true=>rfl|false=>simp only[FI,ab];rw[iX (l:=2) (i:=2) (j:=2+n) rfl (by omega) (by omega) (by omega)];rfl);intro i _ hi;have h1:decide ((i:Int)<(x.length:Int))=true:=FK (by omega);rw[h1,FJ,ar rfl hi];simp only[ab];rw[wrap64 (by omega)];cases x.getD i 0 != 0<;>rfl
def Bv (key:List Int) (l:Int) (o:List Int):ai×Int:=bif (o.take 32).drop 16 != tagO (ll key (o.take 16)) l (o.take 16) (o.drop 32) then(mw,70) else bif badS l (lR (ll key (o.take 16)).Box (List.replicate 16 0) (o.drop 32)) then(mw,71) else(⟨bif decide (l>1) then padS (innS (lR (ll key (o.take 16)).Box (List.replicate 16 0) (o.drop 32))) else ut (innS (lR (ll key (o.take 16)).Box (List.replicate 16 0) (o.drop 32))),qV (ll key (o.take 16)).Replay (o.take 32)⟩,0)
def fW (key:List Int) (l:Int) (c:List Int):ai×Int:=bif key.length != 32||bo l==0 then(mw,2) else bif (cutS c (bo l)).2 != 0 then(mw,(cutS c (bo l)).2) else Bv key l (cutS c (bo l)).1
theorem Do {c:List Int} {n:Nat} (h:((cutS c n).2 != 0)=false):c.length=320∧(cutS c n).1=c.take n:=by unfold cutS at h⊢;cases h1:(c.length != 320) with|true=>rw[h1] at h;simp at h|false=>rw[h1] at h;cases h2:nz (c.drop n) with|true=>rw[h2] at h;simp at h|false=>exact⟨by simpa using h1,rfl⟩
theorem Bw {l:Int} {p:List Int} (h:badS l p=false):(innS p).length≤bo l - 34:=by unfold badS at h;rw[FU] at h;have:=F5 h.1;simp[innS];omega
theorem A0 {key c:List Int} {l:Int} (hk:key.length<2^30) (hc:aL c):jc key l c=some (fW key l c):=by unfold jc fW;simp only[qj,ab];(have e1:(bif (key.length:Int) != 32 then some true else some ((bo l:Int)==0):Option Bool)=some (key.length != 32||bo l==0):=by have a:((key.length:Int) != 32)=(key.length != 32):=py (n:=32);have b:((bo l:Int)==0)=(bo l==0):=qM (n:=bo l) (m:=0);rw[a,b];cases key.length != 32<;>rfl);rw[e1];simp only[ab];cases h1:(key.length != 32||bo l==0) with|true=>rfl|false=>rw[FU] at h1;(have hkl:key.length=32:=by simpa using h1.1);obtain⟨l1,l2,l3⟩:=wK (l:=l) (by simpa using h1.2);simp only[FI];rw[Dk rfl (uu l)];simp only[ab];cases h2:((cutS c (bo l)).2 != 0) with|true=>rfl|false=>obtain⟨c1,c2⟩:=Do h2;simp only[FI];rw[c2];(have ol:(c.take (bo l)).length=bo l:=by rw[Ga];omega);have ob:aL (c.take (bo l)):=λb h=>hc b (Gv h);generalize c.take (bo l)=o at*;unfold Bv;have g1:decide (16≤o.length)=true:=FK (by omega);(have nl:(o.take 16).length=16:=by rw[Ga];omega);(have bl:(o.drop 32).length=bo l - 32:=by rw[Gh];omega);rw[g1,FJ,xP hkl nl];obtain⟨k1,k2,k3⟩:=wL key (o.take 16);have kb:=wM key (o.take 16);simp only[ab,F4,FI];generalize ll key (o.take 16)=ks at*;rw[iX (l:=32) (i:=32) (j:=o.length) rfl rfl (by omega) (F9 _),iX (l:=16) (h:=32) (i:=16) (j:=32) rfl rfl (by omega) (by omega)];simp only[ab,Gm];rw[xQ (by omega) nl (by omega)];simp only[ab];rw[Ci (a:=(o.take 32).drop 16) (b:=tagO ks l (o.take 16) (o.drop 32)) (λb h=>ob b (Gv (HJ h))) (sL _ _) (by simp;omega)];simp only[ab];have e2:(!((o.take 32).drop 16==tagO ks l (o.take 16) (o.drop 32)))=((o.take 32).drop 16 != tagO ks l (o.take 16) (o.drop 32)):=rfl;have hal:(qV ks.Mac ([IntKind.wrap .u8 l]++o.take 16++o.drop 32))=tagO ks l (o.take 16) (o.drop 32):=rfl;rw[e2];cases ((o.take 32).drop 16 != tagO ks l (o.take 16) (o.drop 32)) with|true=>rfl|false=>simp only[FI];rw[tZ k1 kb (by simp) (by omega)];simp only[ab];have pl:=rN ks.Box (List.replicate 16 0) (o.drop 32);have pb:=sC ks.Box (List.replicate 16 0) (o.drop 32);generalize lR ks.Box (List.replicate 16 0) (o.drop 32)=p at*;rw[xS ⟨l1,l2⟩ l3 (by omega) pb];simp only[ab];cases hbad:badS l p with|true=>rfl|false=>have il:=Bw hbad;simp only[FI,Gr];rw[jl (h:=32) (j:=32) rfl (by omega)];simp only[ab];rw[tx (by omega) (by simp;omega)];simp only[ab];have g2:decide (16≤(tagS ks.Replay (o.take 32)).length)=true:=FK (by rw[jm];omega);rw[g2,FJ];have hh:List.take 16 (tagS ks.Replay (o.take 32))=qV ks.Replay (o.take 32):=rfl;rw[hh];cases hl1:decide (l>1) with|true=>have:=FO hl1;simp only[FJ];rw[zm (by omega)];rfl|false=>have:=F5 hl1;simp only[FI];rw[AY (by omega)];rfl
theorem Dp {key c:List Int} {l:Int} (hk:key.length<2^30) (hc:aL c):fa key l c=some (fW key l c):=by
 unfold fa fW
 simp only[Dl,ab]
 have e1:(bif (key.length:Int) != 32 then some true else some ((bo l:Int)==0):Option Bool)=some (key.length != 32||bo l==0):=by
  have a:((key.length:Int) != 32)=(key.length != 32):=py (n:=32)
  have b:((bo l:Int)==0)=(bo l==0):=qM (n:=bo l) (m:=0)
  rw[a,b];cases key.length != 32<;>rfl
 rw[e1]
 simp only[ab]
 cases h1:(key.length != 32||bo l==0) with
 |true=>rfl
 |false=>
  rw[FU] at h1
  have hkl:key.length=32:=by simpa using h1.1
  obtain⟨l1,l2,l3⟩:=wK (l:=l) (by simpa using h1.2)
  simp only[FI]
  rw[Ex rfl (uu l)]
  simp only[ab]
  cases h2:((cutS c (bo l)).2 != 0) with
  |true=>rfl
  |false=>
   obtain⟨c1,c2⟩:=Do h2
   simp only[FI]
   rw[c2]
   have ol:(c.take (bo l)).length=bo l:=by rw[Ga];omega
   have ob:aL (c.take (bo l)):=λb h=>hc b (Gv h)
   generalize c.take (bo l)=o at*
   unfold Bv
   have nl:(o.take 16).length=16:=by rw[Ga];omega
   have bl:(o.drop 32).length=bo l - 32:=by rw[Gh];omega
   rw[aP (λi=>((i:Int),part1 16 (λj=>o.getD j 0) (λ_=>0) i,part1 16 (λj=>o.getD (16+j) 0) (λ_=>0) i)) 0 16 (r:=(o.take 16,(o.take 32).drop 16)) (by omega) ?_ ?_ (by rfl)]
   rotate_left
   · intro i _ hi
     have h1:decide ((i:Int)<16)=true:=FK (by omega)
     simp only[h1,FJ]
     rw[ar (xs:=o) (z:=(i:Int)) rfl (by omega),wrap64 (x:=16+(i:Int)) (by omega),ar (xs:=o) (z:=16+(i:Int)) (i:=16+i) (by omega) (by omega)]
     simp only[ab]
     rw[dp rfl (by omega),dp rfl (by omega)]
     simp only[ab,FP]
     rw[wrap64 (by omega),cV (f:=λj=>o.getD j 0) (by omega) rfl,cV (f:=λj=>o.getD (16+j) 0) (by omega) rfl];rfl
   · have h1:decide (((16:Nat):Int)<16)=false:=by decide
     simp only[h1,FI]
     rw[fv,fv]
     have r1:(List.range 16).map (λj=>o.getD j 0)=o.take 16:=by
      apply iB
      · simp;omega
      · intro j hj;simp at hj;simp[hj,GN]
     have r2:(List.range 16).map (λj=>o.getD (16+j) 0)=(o.take 32).drop 16:=by
      apply iB
      · simp;omega
      · intro j hj;simp at hj;simp[hj,GN,Gq,show 16+j<32 by omega]
     rw[r1,r2]
   simp only[ab]
   rw[s4 hkl nl]
   obtain⟨k1,k2,k3⟩:=wL key (o.take 16)
   have kb:=wM key (o.take 16)
   simp only[ab]
   generalize ll key (o.take 16)=ks at*
   rw[iX (l:=32) (i:=32) (j:=o.length) rfl rfl (by omega) (F9 _)]
   simp only[ab,Gm]
   rw[Ez (by omega) nl (by omega)]
   simp only[ab]
   cases ((o.take 32).drop 16 != tagO ks l (o.take 16) (o.drop 32)) with
   |true=>rfl
   | false =>
     simp only[FI]
     rw[C5 k1 kb (by simp) (by omega)]
     simp only[ab]
     have pl:=rN ks.Box (List.replicate 16 0) (o.drop 32)
     have pb:=sC ks.Box (List.replicate 16 0) (o.drop 32)
     generalize lR ks.Box (List.replicate 16 0) (o.drop 32)=p at*
     rw[ar (z:=0) (i:=0) rfl (by omega),ar (z:=1) (i:=1) rfl (by omega)]
     simp only[ab]
     have h0:=fi pb 0
     have h1':=fi pb 1
     have hn:=xR pb
     have en:IntKind.wrap .i64 ((IntKind.wrap .i64 (256*(IntKind.wrap .i64 (p.getD 0 0))))+(IntKind.wrap .i64 (p.getD 1 0)))=(lenS p:Int):=by
      rw[wrap64 (x:=p.getD 0 0) (by omega),wrap64 (x:=p.getD 1 0) (by omega),wrap64 (x:=256*p.getD 0 0) (by omega),wrap64 (by omega)]
      unfold lenS;omega
     rw[en,wrap64 (x:=(bo l:Int) - 34) (by omega)]
     have il:(decide (lenS p>bo l - 34)||nz (p.drop (2+lenS p)))=false→((p.take (2+lenS p)).drop 2).length≤bo l - 34:=Bw
     have hB:badS l p=(decide (lenS p>bo l - 34)||nz (p.drop (2+lenS p))):=rfl
     have hI:innS p=(p.take (2+lenS p)).drop 2:=rfl
     rw[hB,hI]
     clear hB hI
     generalize lenS p=n at*
     cases hc1:decide (n>bo l - 34) with
     |true=>
      have:decide ((n:Int)>(bo l:Int) - 34)=true:=FK (by have:=FO hc1;omega)
      rw[this];rfl
     |false=>
      have hc':=F5 hc1
      have:decide ((n:Int)>(bo l:Int) - 34)=false:=FL (by omega)
      rw[this,FI,wrap64 (x:=2+(n:Int)) (by omega)]
      rw[m6 (p:=λi=>p.getD i 0 != 0) (good:= .inl ()) (bad:= .inr (mw,71)) (nz (p.drop (2+n))) (2+n) p.length (by omega) xN ?_ (cY (FL (by omega))) (by omega)]
      · rw[hc1] at il
        simp only[HG] at il⊢
        cases hz:nz (p.drop (2+n)) with
        |true=>rfl
        |false=>
         have il:=il hz
         simp only[FI,ab]
         rw[jl (h:=32) (j:=32) rfl (by omega)]
         simp only[ab]
         rw[zo (by omega) (by simp;omega)]
         simp only[ab]
         rw[iX (l:=2) (i:=2) (j:=2+n) rfl (by omega) (by omega) (by omega)]
         simp only[ab]
         cases hl1:decide (l>1) with
         |true=>
          have:=FO hl1
          simp only[FJ]
          rw[Ey (by omega)];rfl
         |false=>
          have:=F5 hl1
          simp only[FI]
          rw[Co (by omega)];rfl
      · intro i i1 hi
        have h1:decide ((i:Int)<(p.length:Int))=true:=FK (by omega)
        rw[h1,FJ,ar rfl hi]
        simp only[ab]
        rw[wrap64 (by omega)];cases p.getD i 0 != 0<;>rfl
def HP:List Int:=[99,104,117,114,110,32,104,111,112]
def epL (e:Int):List Int:=(List.range 8).map λi=>IntKind.wrap .u8 (shrI .i64 e ((56 - 8*i:Nat):Int))
def badK (key:List Int) (e:Int):Bool:=key.length != 32||decide (e<0)||decide (e>4611686018427387904)
def keyS (key:List Int) (e:Int):List Int×Int:=bif badK key e then([],2) else(derS key (epL e) HP 32,0)
theorem Cq {key:List Int} {e:Int}:lm key e=some (keyS key e):=by unfold lm keyS;have a:((key.length:Int) != 32)=(key.length != 32):=py (n:=32);have hB:badK key e=(key.length != 32||decide (e<0)||decide (e>4611686018427387904)):=rfl;rw[a,←hB];cases hb:badK key e with|true=>rfl|false=>rw[hB,FU,FU] at hb;(have hk:key.length=32:=by simpa using hb.1.1);(have g:mkB 8 8=true:=by decide);(have g2:decide (0<[99,104,117,114,110,32,104,111,112].length)=true:=by decide);simp only[FI];have hp:[99,104,117,114,110,32,104,111,112]=HP:=rfl;rw[g,FJ,g2,hp];simp only[FJ];rw[aP (λi=>(part1 8 (λi=>IntKind.wrap .u8 (shrI .i64 e ((56 - 8*i:Nat):Int))) (λ_=>0) i,(i:Int))) 0 8 (r:=epL e) (by omega) ?_ ?_ (by rfl)];simp only[ab];rw[un (z:=32) (n:=32) rfl (by omega) (by omega) (by simp[epL]) (by simp[HP])];simp only[ab];intro i _ hi;have h1:decide ((i:Int)<((List.replicate (Int.toNat 8) (0:Int)).length:Int))=true:=FK (by simp;omega);simp only[h1,FJ];rw[wrap64 (x:=8*(i:Int)) (by omega),wrap64 (x:=56 - 8*(i:Int)) (by omega)];have g3:decide (0≤56 - 8*(i:Int))=true:=FK (by omega);rw[g3,FJ,dp rfl hi];simp only[ab,FP];(have e3:56 - 8*(i:Int)=((56 - 8*i:Nat):Int):=by omega);rw[wrap64 (by omega),e3,cV (f:=λi=>IntKind.wrap .u8 (shrI .i64 e ((56 - 8*i:Nat):Int))) hi rfl];rfl;(have h1:decide (((8:Nat):Int)<((List.replicate (Int.toNat 8) (0:Int)).length:Int))=false:=by decide);simp only[h1,FI];rw[fv];rfl
theorem Bx {key:List Int} {e:Int}:fE key e=some (keyS key e):=by unfold fE keyS;have a:((key.length:Int) != 32)=(key.length != 32):=py (n:=32);have hB:badK key e=(key.length != 32||decide (e<0)||decide (e>4611686018427387904)):=rfl;rw[a,←hB];cases hb:badK key e with|true=>rfl|false=>rw[hB,FU,FU] at hb;(have hk:key.length=32:=by simpa using hb.1.1);(have g2:decide (0<[99,104,117,114,110,32,104,111,112].length)=true:=by decide);simp only[FI];have hp:[99,104,117,114,110,32,104,111,112]=HP:=rfl;rw[g2,hp];simp only[FJ];rw[aP (λi=>((List.range i).map (λi=>IntKind.wrap .u8 (shrI .i64 e ((56 - 8*i:Nat):Int))),56 - 8*(i:Int))) 0 8 (r:=epL e) (by omega) ?_ (cY rfl) (by rfl)];simp only[ab];rw[uo (z:=32) (n:=32) rfl (by omega) (by omega) (by simp[epL]) (by simp[HP])];simp only[ab];intro i _ hi;have h1:decide (56 - 8*(i:Int)≥0)=true:=FK (by omega);simp only[h1,FJ];rw[gW (x:=56 - 8*(i:Int)) (by omega)];have g3:decide (0≤56 - 8*(i:Int))=true:=FK (by omega);rw[g3,FJ,aQ (by simp[room];omega)];simp only[ab];(have e3:56 - 8*(i:Int)=((56 - 8*i:Nat):Int):=by omega);(have e4:((56 - 8*i:Nat):Int) - 8=56 - 8*((i+1:Nat):Int):=by omega);rw[wrap64 (by omega),e3,e4,Hx,Gy];rfl
theorem uv {key:List Int} {e:Int} (h:(keyS key e).2=0):(keyS key e).1.length=32:=by unfold keyS at h⊢;cases hb:badK key e with|true=>rw[hb] at h;simp at h|false=>simp only[FI];exact qU _ _ _ _
end Go.Proofs.YtobbmodjdkcdcaaGreatDoor
