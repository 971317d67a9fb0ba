import Derived.Test.YtobbmodjdkcdcaaGreatDoorLawOnion
set_option autoImplicit true
set_option relaxedAutoImplicit true
set_option linter.all false
set_option maxRecDepth 20000
set_option maxHeartbeats 1000000
namespace Go.Proofs.YtobbmodjdkcdcaaGreatDoor
open Go Go.Sim
open Go.IntKind (wrap)
variable [Fu]
theorem E4:∀a:Fin 256,OX .i64 ((a.val:Nat):Int) 8=((256*a.val:Nat):Int):=by decide+kernel
theorem GT {a b:Nat} (ha:a<256) (hb:b<256):PV .i64 ((256*a:Nat):Int) (b:Int)=((256*a+b:Nat):Int):=by have h:PV .i64 ((256*a:Nat):Int) (b:Int)=wrap .i64 ((BitVec.ofInt 64 ((256*a:Nat):Int)|||BitVec.ofInt 64 (b:Int)).toNat:Int):=rfl;rw[h];(have h2:(BitVec.ofInt 64 ((256*a:Nat):Int)|||BitVec.ofInt 64 (b:Int)).toNat=256*a+b:=by rw[BitVec.toNat_or,IG,IG];(have h1:(((256*a:Nat):Int)%((2^64:Nat):Int)).toNat=256*a:=by omega);(have h2:((b:Int)%((2^64:Nat):Int)).toNat=b:=by omega);rw[h1,h2];have:=JV (b:=b) (i:=8) (by omega) a;rw[KN] at this;(have e:256*a=a*2^8:=by omega);rw[e];exact this.symm);rw[h2,wrap64 (by omega)]
def m7:aH:=⟨[],List.replicate 16 0⟩
def Pn (p:List Int):Nat:=256*(p.getD 0 0).toNat+(p.getD 1 0).toNat
def TV (l:Int) (p:List Int):Bool:=decide (Pn p>bQ l - 34)||nz (p.drop (2+Pn p))
def TH (p:List Int):List Int:=(p.take (2+Pn p)).drop 2
theorem E5 {p:List Int} (hb:aT p):PV .i64 (OX .i64 (wrap .i64 (p.getD 0 0)) 8) (wrap .i64 (p.getD 1 0))=(Pn p:Int):=by have h0:=fW hb 0;have h1:=fW hb 1;unfold Pn;generalize p.getD 0 0=x at*;generalize p.getD 1 0=y at*;obtain⟨a,rfl⟩:∃a:Nat,x=a:=⟨x.toNat,by omega⟩;obtain⟨b,rfl⟩:∃b:Nat,y=b:=⟨y.toNat,by omega⟩;rw[wrap64 (by omega),wrap64 (by omega),E4 ⟨a,by omega⟩,GT (by omega) (by omega)];simp
theorem vR {p:List Int} (hb:aT p):Pn p≤65535:=by have h0:=fW hb 0;have h1:=fW hb 1;unfold Pn;omega
theorem Ad {p:List Int} {l:Int} (hl:1≤l∧l≤8) (hs:(bQ l:Int)=48+34*l) (hp:p.length=bQ l - 32) (hb:aT p): j9 p l=some (bif TV l p then([],false) else(TH p,true)):=by unfold j9 nr;rw[sD];simp only[aB];rw[aJ (z:=0) (i:=0) rfl (by omega),aJ (z:=1) (i:=1) rfl (by omega)];simp only[aB];rw[E5 hb];have hn:=vR hb;have hB:TV l p=(decide (Pn p>bQ l - 34)||nz (p.drop (2+Pn p))):=rfl;have hI:TH p=(p.take (2+Pn p)).drop 2:=rfl;rw[hB,hI];generalize Pn p=n at*;rw[wrap64 (x:=(bQ l:Int) - 34) (by omega)];cases hc:decide (n>bQ l - 34) with|true=>have:decide ((n:Int)>(bQ l:Int) - 34)=true:=Ho (by have:=Hr hc;omega);rw[this];rfl|false=>have hc':=HF hc;have:decide ((n:Int)>(bQ l:Int) - 34)=false:=Hp (by omega);rw[this,Hm,wrap64 (by omega),ki (l:=2+(n:Int)) (i:=2+n) (j:=p.length) (by omega) rfl (by omega) (HK _)];simp only[aB,HY,Jr];generalize hx:p.drop (2+n)=x;(have hxl:x.length≤p.length:=by rw[←hx,HW];omega);rw[pj (p:=λi=>x.getD i 0 != 0) (good:= .inl ()) (bad:= .inr ([],false)) (nz x) 0 x.length (by omega) (by have:=zZ (l:=x) (a:=0);rw[IP] at this;exact this) ?_ (dF (Hp (by omega))) (by rfl)];(cases nz x with|true=>rfl|false=>simp only[Hm,aB];rw[ki (l:=2) (i:=2) (j:=2+n) rfl (by omega) (by omega) (by omega)];rfl);intro i _ hi;have h1:decide ((i:Int)<(x.length:Int))=true:=Ho (by omega);rw[h1,Hn,aJ rfl hi];simp only[aB];rw[wrap64 (by omega)];cases x.getD i 0 != 0<;>rfl
def Bq (key:List Int) (l:Int) (o:List Int):aH×Int:=bif (o.take 32).drop 16 != S8 (mn key (o.take 16)) l (o.take 16) (o.drop 32) then(m7,70) else bif TV l (mX (mn key (o.take 16)).Box (List.replicate 16 0) (o.drop 32)) then(m7,71) else(⟨bif decide (l>1) then Rp (TH (mX (mn key (o.take 16)).Box (List.replicate 16 0) (o.drop 32))) else wO (TH (mX (mn key (o.take 16)).Box (List.replicate 16 0) (o.drop 32))),tv (mn key (o.take 16)).Replay (o.take 32)⟩,0)
def jO (key:List Int) (l:Int) (c:List Int):aH×Int:=bif key.length != 32||bQ l==0 then(m7,2) else bif (Rd c (bQ l)).2 != 0 then(m7,(Rd c (bQ l)).2) else Bq key l (Rd c (bQ l)).1
theorem E6 {c:List Int} {n:Nat} (h:((Rd c n).2 != 0)=false):c.length=320∧(Rd c n).1=c.take n:=by unfold Rd at h⊢;cases h1:(c.length != 320) with|true=>rw[h1] at h;simp at h|false=>rw[h1] at h;cases h2:nz (c.drop n) with|true=>rw[h2] at h;simp at h|false=>exact⟨by simpa using h1,rfl⟩
theorem Di {l:Int} {p:List Int} (h:TV l p=false):(TH p).length≤bQ l - 34:=by unfold TV at h;rw[Hz] at h;have:=HF h.1;simp[TH];omega
theorem CL {key c:List Int} {l:Int} (hk:key.length<2^30) (hc:aT c):kw key l c=some (jO key l c):=by unfold kw jO;simp only[sD,aB];(have e1:(bif (key.length:Int) != 32 then some true else some ((bQ l:Int)==0):Option Bool)=some (key.length != 32||bQ l==0):=by have a:((key.length:Int) != 32)=(key.length != 32):=rN (n:=32);have b:((bQ l:Int)==0)=(bQ l==0):=sW (n:=bQ l) (m:=0);rw[a,b];cases key.length != 32<;>rfl);rw[e1];simp only[aB];cases h1:(key.length != 32||bQ l==0) with|true=>rfl|false=>rw[Hz] at h1;(have f:key.length=32:=by simpa using h1.1);obtain⟨l1,l2,l3⟩:=yP (l:=l) (by simpa using h1.2);simp only[Hm];rw[E3 rfl (tt l)];simp only[aB];cases h2:((Rd c (bQ l)).2 != 0) with|true=>rfl|false=>obtain⟨c1,c2⟩:=E6 h2;simp only[Hm];rw[c2];(have ol:(c.take (bQ l)).length=bQ l:=by rw[HN];omega);have ob:aT (c.take (bQ l)):=λb h=>hc b (Ih h);generalize c.take (bQ l)=o at*;unfold Bq;have g1:decide (16≤o.length)=true:=Ho (by omega);(have nl:(o.take 16).length=16:=by rw[HN];omega);(have bl:(o.drop 32).length=bQ l - 32:=by rw[HW];omega);rw[g1,Hn,Ab f nl];obtain⟨k1,k2,k3⟩:=yQ key (o.take 16);have kb:=yR key (o.take 16);simp only[aB,HJ,Hm];generalize mn key (o.take 16)=ks at*;rw[ki (l:=32) (i:=32) (j:=o.length) rfl rfl (by omega) (HK _),ki (l:=16) (h:=32) (i:=16) (j:=32) rfl rfl (by omega) (by omega)];simp only[aB,HY];rw[Ac (by omega) nl (by omega)];simp only[aB];rw[D3 (a:=(o.take 32).drop 16) (b:=S8 ks l (o.take 16) (o.drop 32)) (λb h=>ob b (Ih (JD h))) (vc _ _) (by simp;omega)];simp only[aB];have e2:(!((o.take 32).drop 16==S8 ks l (o.take 16) (o.drop 32)))=((o.take 32).drop 16 != S8 ks l (o.take 16) (o.drop 32)):=rfl;have k:(tv ks.Mac ([wrap .u8 l]++o.take 16++o.drop 32))=S8 ks l (o.take 16) (o.drop 32):=rfl;rw[e2];cases ((o.take 32).drop 16 != S8 ks l (o.take 16) (o.drop 32)) with|true=>rfl|false=>simp only[Hm];rw[wi k1 kb (by simp) (by omega)];simp only[aB];have pl:=un ks.Box (List.replicate 16 0) (o.drop 32);have pb:=om ks.Box (List.replicate 16 0) (o.drop 32);generalize mX ks.Box (List.replicate 16 0) (o.drop 32)=p at*;rw[Ad ⟨l1,l2⟩ l3 (by omega) pb];simp only[aB];cases e:TV l p with|true=>rfl|false=>have il:=Di e;simp only[Hm,HU];rw[kQ (h:=32) (j:=32) rfl (by omega)];simp only[aB];rw[vO (by omega) (by simp;omega)];simp only[aB];have g2:decide (16≤(RX ks.Replay (o.take 32)).length)=true:=Ho (by rw[kR];omega);rw[g2,Hn];have hh:List.take 16 (RX ks.Replay (o.take 32))=tv ks.Replay (o.take 32):=rfl;rw[hh];cases d:decide (l>1) with|true=>have:=Hr d;simp only[Hn];rw[Bn (by omega)];rfl|false=>have:=HF d;simp only[Hm];rw[CJ (by omega)];rfl
theorem E7 {key c:List Int} {l:Int} (hk:key.length<2^30) (hc:aT c):fP key l c=some (jO key l c):=by
 unfold fP jO
 simp only[Bo,aB]
 have e1:(bif (key.length:Int) != 32 then some true else some ((bQ l:Int)==0):Option Bool)=some (key.length != 32||bQ l==0):=by
  have a:((key.length:Int) != 32)=(key.length != 32):=rN (n:=32)
  have b:((bQ l:Int)==0)=(bQ l==0):=sW (n:=bQ l) (m:=0)
  rw[a,b];cases key.length != 32<;>rfl
 rw[e1]
 simp only[aB]
 cases h1:(key.length != 32||bQ l==0) with
 |true=>rfl
 |false=>
  rw[Hz] at h1
  have hkl:key.length=32:=by simpa using h1.1
  obtain⟨l1,l2,l3⟩:=yP (l:=l) (by simpa using h1.2)
  simp only[Hm]
  rw[Ge rfl (tt l)]
  simp only[aB]
  cases h2:((Rd c (bQ l)).2 != 0) with
  |true=>rfl
  |false=>
   obtain⟨c1,c2⟩:=E6 h2
   simp only[Hm]
   rw[c2]
   have ol:(c.take (bQ l)).length=bQ l:=by rw[HN];omega
   have ob:aT (c.take (bQ l)):=λb h=>hc b (Ih h)
   generalize c.take (bQ l)=o at*
   unfold Bq
   have nl:(o.take 16).length=16:=by rw[HN];omega
   have bl:(o.drop 32).length=bQ l - 32:=by rw[HW];omega
   rw[aY (λi=>((i:Int),x_ 16 (λj=>o.getD j 0) (λ_=>0) i,x_ 16 (λj=>o.getD (16+j) 0) (λ_=>0) i)) 0 16 (r:=(o.take 16,(o.take 32).drop 16)) (by omega) ?_ ?_ (by rfl)]
   rotate_left
   · intro i _ hi
     have h1:decide ((i:Int)<16)=true:=Ho (by omega)
     simp only[h1,Hn]
     rw[aJ (xs:=o) (z:=(i:Int)) rfl (by omega),wrap64 (x:=16+(i:Int)) (by omega),aJ (xs:=o) (z:=16+(i:Int)) (i:=16+i) (by omega) (by omega)]
     simp only[aB]
     rw[eg rfl (by omega),eg rfl (by omega)]
     simp only[aB,Hq]
     rw[wrap64 (by omega),dK (f:=λj=>o.getD j 0) (by omega) rfl,dK (f:=λj=>o.getD (16+j) 0) (by omega) rfl];rfl
   · have h1:decide (((16:Nat):Int)<16)=false:=by decide
     simp only[h1,Hm]
     rw[ge,ge]
     have r1:(List.range 16).map (λj=>o.getD j 0)=o.take 16:=by
      apply jM
      · simp;omega
      · intro j hj;simp at hj;simp[hj,Iw]
     have r2:(List.range 16).map (λj=>o.getD (16+j) 0)=(o.take 32).drop 16:=by
      apply jM
      · simp;omega
      · intro j hj;simp at hj;simp[hj,Iw,H5,show 16+j<32 by omega]
     rw[r1,r2]
   simp only[aB]
   rw[vw hkl nl]
   obtain⟨k1,k2,k3⟩:=yQ key (o.take 16)
   have kb:=yR key (o.take 16)
   simp only[aB]
   generalize mn key (o.take 16)=ks at*
   rw[ki (l:=32) (i:=32) (j:=o.length) rfl rfl (by omega) (HK _)]
   simp only[aB,HY]
   rw[Gf (by omega) nl (by omega)]
   simp only[aB]
   cases ((o.take 32).drop 16 != S8 ks l (o.take 16) (o.drop 32)) with
   |true=>rfl
   | false =>
     simp only[Hm]
     rw[AQ k1 kb (by simp) (by omega)]
     simp only[aB]
     have pl:=un ks.Box (List.replicate 16 0) (o.drop 32)
     have pb:=om ks.Box (List.replicate 16 0) (o.drop 32)
     generalize mX ks.Box (List.replicate 16 0) (o.drop 32)=p at*
     rw[aJ (z:=0) (i:=0) rfl (by omega),aJ (z:=1) (i:=1) rfl (by omega)]
     simp only[aB]
     have h0:=fW pb 0
     have h1':=fW pb 1
     have hn:=vR pb
     have en:wrap .i64 ((wrap .i64 (256*(wrap .i64 (p.getD 0 0))))+(wrap .i64 (p.getD 1 0)))=(Pn p:Int):=by
      rw[wrap64 (x:=p.getD 0 0) (by omega),wrap64 (x:=p.getD 1 0) (by omega),wrap64 (x:=256*p.getD 0 0) (by omega),wrap64 (by omega)]
      unfold Pn;omega
     rw[en,wrap64 (x:=(bQ l:Int) - 34) (by omega)]
     have il:(decide (Pn p>bQ l - 34)||nz (p.drop (2+Pn p)))=false→((p.take (2+Pn p)).drop 2).length≤bQ l - 34:=Di
     have hB:TV l p=(decide (Pn p>bQ l - 34)||nz (p.drop (2+Pn p))):=rfl
     have hI:TH p=(p.take (2+Pn p)).drop 2:=rfl
     rw[hB,hI]
     clear hB hI
     generalize Pn p=n at*
     cases hc1:decide (n>bQ l - 34) with
     |true=>
      have:decide ((n:Int)>(bQ l:Int) - 34)=true:=Ho (by have:=Hr hc1;omega)
      rw[this];rfl
     |false=>
      have hc':=HF hc1
      have:decide ((n:Int)>(bQ l:Int) - 34)=false:=Hp (by omega)
      rw[this,Hm,wrap64 (x:=2+(n:Int)) (by omega)]
      rw[pj (p:=λi=>p.getD i 0 != 0) (good:= .inl ()) (bad:= .inr (m7,71)) (nz (p.drop (2+n))) (2+n) p.length (by omega) zZ ?_ (dF (Hp (by omega))) (by omega)]
      · rw[hc1] at il
        simp only[Jr] at il⊢
        cases hz:nz (p.drop (2+n)) with
        |true=>rfl
        |false=>
         have il:=il hz
         simp only[Hm,aB]
         rw[kQ (h:=32) (j:=32) rfl (by omega)]
         simp only[aB]
         rw[Bp (by omega) (by simp;omega)]
         simp only[aB]
         rw[ki (l:=2) (i:=2) (j:=2+n) rfl (by omega) (by omega) (by omega)]
         simp only[aB]
         cases hl1:decide (l>1) with
         |true=>
          have:=Hr hl1
          simp only[Hn]
          rw[Dg (by omega)];rfl
         |false=>
          have:=HF hl1
          simp only[Hm]
          rw[D9 (by omega)];rfl
      · intro i i1 hi
        have h1:decide ((i:Int)<(p.length:Int))=true:=Ho (by omega)
        rw[h1,Hn,aJ rfl hi]
        simp only[aB]
        rw[wrap64 (by omega)];cases p.getD i 0 != 0<;>rfl
def HP:List Int:=[99,104,117,114,110,32,104,111,112]
def YC (e:Int):List Int:=(List.range 8).map λi=>wrap .u8 (K_ .i64 e ((56 - 8*i:Nat):Int))
def UG (key:List Int) (e:Int):Bool:=key.length != 32||decide (e<0)||decide (e>4611686018427387904)
def QI (key:List Int) (e:Int):List Int×Int:=bif UG key e then([],2) else(QC key (YC e) HP 32,0)
theorem Eb {key:List Int} {e:Int}:m9 key e=some (QI key e):=by unfold m9 QI;have a:((key.length:Int) != 32)=(key.length != 32):=rN (n:=32);have hB:UG key e=(key.length != 32||decide (e<0)||decide (e>4611686018427387904)):=rfl;rw[a,←hB];cases hb:UG key e with|true=>rfl|false=>rw[hB,Hz,Hz] at hb;(have hk:key.length=32:=by simpa using hb.1.1);(have g:P2 8 8=true:=by decide);(have g2:decide (0<[99,104,117,114,110,32,104,111,112].length)=true:=by decide);simp only[Hm];have hp:[99,104,117,114,110,32,104,111,112]=HP:=rfl;rw[g,Hn,g2,hp];simp only[Hn];rw[aY (λi=>(x_ 8 (λi=>wrap .u8 (K_ .i64 e ((56 - 8*i:Nat):Int))) (λ_=>0) i,(i:Int))) 0 8 (r:=YC e) (by omega) ?_ ?_ (by rfl)];simp only[aB];rw[wF (z:=32) (n:=32) rfl (by omega) (by omega) (by simp[YC]) (by simp[HP])];simp only[aB];intro i _ hi;have h1:decide ((i:Int)<((List.replicate (Int.toNat 8) (0:Int)).length:Int))=true:=Ho (by simp;omega);simp only[h1,Hn];rw[wrap64 (x:=8*(i:Int)) (by omega),wrap64 (x:=56 - 8*(i:Int)) (by omega)];have g3:decide (0≤56 - 8*(i:Int))=true:=Ho (by omega);rw[g3,Hn,eg rfl hi];simp only[aB,Hq];(have e3:56 - 8*(i:Int)=((56 - 8*i:Nat):Int):=by omega);rw[wrap64 (by omega),e3,dK (f:=λi=>wrap .u8 (K_ .i64 e ((56 - 8*i:Nat):Int))) hi rfl];rfl;(have h1:decide (((8:Nat):Int)<((List.replicate (Int.toNat 8) (0:Int)).length:Int))=false:=by decide);simp only[h1,Hm];rw[ge];rfl
theorem Gg {key:List Int} {e:Int}:ji key e=some (QI key e):=by unfold ji QI;have a:((key.length:Int) != 32)=(key.length != 32):=rN (n:=32);have hB:UG key e=(key.length != 32||decide (e<0)||decide (e>4611686018427387904)):=rfl;rw[a,←hB];cases hb:UG key e with|true=>rfl|false=>rw[hB,Hz,Hz] at hb;(have hk:key.length=32:=by simpa using hb.1.1);(have g2:decide (0<[99,104,117,114,110,32,104,111,112].length)=true:=by decide);simp only[Hm];have hp:[99,104,117,114,110,32,104,111,112]=HP:=rfl;rw[g2,hp];simp only[Hn];rw[aY (λi=>((List.range i).map (λi=>wrap .u8 (K_ .i64 e ((56 - 8*i:Nat):Int))),56 - 8*(i:Int))) 0 8 (r:=YC e) (by omega) ?_ (dF rfl) (by rfl)];simp only[aB];rw[wK (z:=32) (n:=32) rfl (by omega) (by omega) (by simp[YC]) (by simp[HP])];simp only[aB];intro i _ hi;have h1:decide (56 - 8*(i:Int)≥0)=true:=Ho (by omega);simp only[h1,Hn];rw[jG (x:=56 - 8*(i:Int)) (by omega)];have g3:decide (0≤56 - 8*(i:Int))=true:=Ho (by omega);rw[g3,Hn,aW (by simp[F_];omega)];simp only[aB];(have e3:56 - 8*(i:Int)=((56 - 8*i:Nat):Int):=by omega);(have e4:((56 - 8*i:Nat):Int) - 8=56 - 8*((i+1:Nat):Int):=by omega);rw[wrap64 (by omega),e3,e4,Jw,Im];rfl
theorem Br {key:List Int} {e:Int} (h:(QI key e).2=0):(QI key e).1.length=32:=by unfold QI at h⊢;cases hb:UG key e with|true=>rw[hb] at h;simp at h|false=>simp only[Hm];exact tu _ _ _ _
end Go.Proofs.YtobbmodjdkcdcaaGreatDoor
