import Derived.Test.YtlkjdchmeihhkaaGreatDoorLawOnion
set_option autoImplicit true
set_option relaxedAutoImplicit true
set_option linter.all false
set_option maxRecDepth 20000
set_option maxHeartbeats 1000000
namespace Go.Proofs.YtlkjdchmeihhkaaGreatDoor
open Go Go.Sim
open Go.IntKind (wrap)
variable [Fu]
theorem Gd:∀a:Fin 256,eD .i64 ((a.val:Nat):Int) 8=((256*a.val:Nat):Int):=by decide+kernel
theorem HY {a b:Nat} (c:a<256) (c:b<256):qH .i64 ((256*a:Nat):Int) (b:Int)=((256*a+b:Nat):Int):=by have h:qH .i64 ((256*a:Nat):Int) (b:Int)=wrap .i64 ((BitVec.ofInt 64 ((256*a:Nat):Int)|||BitVec.ofInt 64 (b:Int)).toNat:Int):=rfl;rw[h];(have c:(BitVec.ofInt 64 ((256*a:Nat):Int)|||BitVec.ofInt 64 (b:Int)).toNat=256*a+b:=by rw[BitVec.toNat_or,JM,JM];(have d:(((256*a:Nat):Int)%((2^64:Nat):Int)).toNat=256*a:=by omega);(have c:((b:Int)%((2^64:Nat):Int)).toNat=b:=by omega);rw[d,c];have:=KY (b:=b) (i:=8) (by omega) a;rw[LY] at this;(have e:256*a=a*2^8:=by omega);rw[e];exact this.symm);rw[c,wrap64 (by omega)]
def nY:aH:=⟨[],List.replicate 16 0⟩
def lb (p:List Int):Nat:=256*(p.getD 0 0).toNat+(p.getD 1 0).toNat
def Sc (l:Int) (p:List Int):Bool:=decide (lb p>bW l - 34)||nz (p.drop (2+lb p))
def RE (p:List Int):List Int:=(p.take (2+lb p)).drop 2
theorem Ge {p:List Int} (a:aV p):qH .i64 (eD .i64 (wrap .i64 (p.getD 0 0)) 8) (wrap .i64 (p.getD 1 0))=(lb p:Int):=by have b:=gK a 0;have b:=gK a 1;unfold lb;generalize p.getD 0 0=x at*;generalize p.getD 1 0=y at*;obtain⟨a,rfl⟩:∃a:Nat,x=a:=⟨x.toNat,by omega⟩;obtain⟨b,rfl⟩:∃b:Nat,y=b:=⟨y.toNat,by omega⟩;rw[wrap64 (by omega),wrap64 (by omega),Gd ⟨a,by omega⟩,HY (by omega) (by omega)];simp
theorem xa {p:List Int} (a:aV p):lb p≤65535:=by have b:=gK a 0;have b:=gK a 1;unfold lb;omega
theorem Bm {p:List Int} {l:Int} (hl:1≤l∧l≤8) (hs:(bW l:Int)=48+34*l) (hp:p.length=bW l - 32) (hb:aV p): kQ p l=some (bif Sc l p then([],false) else(RE p,true)):=by unfold kQ oo;rw[tQ];simp only[aB];rw[aK (z:=0) (i:=0) rfl (by omega),aK (z:=1) (i:=1) rfl (by omega)];simp only[aB];rw[Ge hb];have hn:=xa hb;have hB:Sc l p=(decide (lb p>bW l - 34)||nz (p.drop (2+lb p))):=rfl;have hI:RE p=(p.take (2+lb p)).drop 2:=rfl;rw[hB,hI];generalize lb p=n at*;rw[wrap64 (x:=(bW l:Int) - 34) (by omega)];cases hc:decide (n>bW l - 34) with|true=>have:decide ((n:Int)>(bW l:Int) - 34)=true:=Io (by have:=Ir hc;omega);rw[this];rfl|false=>have b:=II hc;have:decide ((n:Int)>(bW l:Int) - 34)=false:=Ip (by omega);rw[this,Il,wrap64 (by omega),lx (l:=2+(n:Int)) (i:=2+n) (j:=p.length) (by omega) rfl (by omega) (IL _)];simp only[aB,IY,Kr];generalize hx:p.drop (2+n)=x;(have c:x.length≤p.length:=by rw[←hx,IZ];omega);rw[qk (p:=λi=>x.getD i 0 != 0) (good:= .inl ()) (bad:= .inr ([],false)) (nz x) 0 x.length (by omega) (by have:=Bi (l:=x) (a:=0);rw[JX] at this;exact this) ?_ (dS (Ip (by omega))) (by rfl)];(cases nz x with|true=>rfl|false=>simp only[Il,aB];rw[lx (l:=2) (i:=2) (j:=2+n) rfl (by omega) (by omega) (by omega)];rfl);intro i _ hi;have h1:decide ((i:Int)<(x.length:Int))=true:=Io (by omega);rw[h1,Im,aK rfl hi];simp only[aB];rw[wrap64 (by omega)];cases x.getD i 0 != 0<;>rfl
def Cn (key:List Int) (l:Int) (o:List Int):aH×Int:=bif (o.take 32).drop 16 != Rh (m6 key (o.take 16)) l (o.take 16) (o.drop 32) then(nY,70) else bif Sc l (nT (m6 key (o.take 16)).Box (List.replicate 16 0) (o.drop 32)) then(nY,71) else(⟨bif decide (l>1) then Fn (RE (nT (m6 key (o.take 16)).Box (List.replicate 16 0) (o.drop 32))) else yb (RE (nT (m6 key (o.take 16)).Box (List.replicate 16 0) (o.drop 32))),uV (m6 key (o.take 16)).Replay (o.take 32)⟩,0)
def kh (key:List Int) (l:Int) (c:List Int):aH×Int:=bif key.length != 32||bW l==0 then(nY,2) else bif (zJ c (bW l)).2 != 0 then(nY,(zJ c (bW l)).2) else Cn key l (zJ c (bW l)).1
theorem Gf {c:List Int} {n:Nat} (h:((zJ c n).2 != 0)=false):c.length=320∧(zJ c n).1=c.take n:=by unfold zJ at h⊢;cases a:(c.length != 320) with|true=>rw[a] at h;simp at h|false=>rw[a] at h;cases b:nz (c.drop n) with|true=>rw[b] at h;simp at h|false=>exact⟨by simpa using a,rfl⟩
theorem Eb {l:Int} {p:List Int} (h:Sc l p=false):(RE p).length≤bW l - 34:=by unfold Sc at h;rw[Iy] at h;have:=II h.1;simp[RE];omega
theorem yd {key c:List Int} {l:Int} (a:key.length<2^30) (d:aV c):iW key l c=some (kh key l c):=by unfold iW kh;simp only[tQ,aB];(have e:(bif (key.length:Int) != 32 then some true else some ((bW l:Int)==0):Option Bool)=some (key.length != 32||bW l==0):=by have a:((key.length:Int) != 32)=(key.length != 32):=sO (n:=32);have b:((bW l:Int)==0)=(bW l==0):=uz (n:=bW l) (m:=0);rw[a,b];cases key.length != 32<;>rfl);rw[e];simp only[aB];cases a:(key.length != 32||bW l==0) with|true=>rfl|false=>rw[Iy] at a;(have f:key.length=32:=by simpa using a.1);obtain⟨e,i,j⟩:=Ah (l:=l) (by simpa using a.2);simp only[Il];rw[Gc rfl (uT l)];simp only[aB];cases a:((zJ c (bW l)).2 != 0) with|true=>rfl|false=>obtain⟨c1,c2⟩:=Gf a;simp only[Il];rw[c2];(have a:(c.take (bW l)).length=bW l:=by rw[IM];omega);have a:aV (c.take (bW l)):=λb h=>d b (Jo h);generalize c.take (bW l)=o at*;unfold Cn;have d:decide (16≤o.length)=true:=Io (by omega);(have nl:(o.take 16).length=16:=by rw[IM];omega);(have k:(o.drop 32).length=bW l - 32:=by rw[IZ];omega);rw[d,Im,Bk f nl];obtain⟨d,f,f⟩:=Ai key (o.take 16);have f:=Aj key (o.take 16);simp only[aB,IH,Il];generalize m6 key (o.take 16)=m at*;rw[lx (l:=32) (i:=32) (j:=o.length) rfl rfl (by omega) (IL _),lx (l:=16) (h:=32) (i:=16) (j:=32) rfl rfl (by omega) (by omega)];simp only[aB,IY];rw[Bl (by omega) nl (by omega)];simp only[aB];rw[EW (a:=(o.take 32).drop 16) (b:=Rh m l (o.take 16) (o.drop 32)) (λb h=>a b (Jo (KF h))) (wt _ _) (by simp;omega)];simp only[aB];have a:(!((o.take 32).drop 16==Rh m l (o.take 16) (o.drop 32)))=((o.take 32).drop 16 != Rh m l (o.take 16) (o.drop 32)):=rfl;have k:(uV m.Mac ([wrap .u8 l]++o.take 16++o.drop 32))=Rh m l (o.take 16) (o.drop 32):=rfl;rw[a];cases ((o.take 32).drop 16 != Rh m l (o.take 16) (o.drop 32)) with|true=>rfl|false=>simp only[Il];rw[xz d f (by simp) (by omega)];simp only[aB];have a:=vN m.Box (List.replicate 16 0) (o.drop 32);have pb:=pR m.Box (List.replicate 16 0) (o.drop 32);generalize nT m.Box (List.replicate 16 0) (o.drop 32)=p at*;rw[Bm ⟨e,i⟩ j (by omega) pb];simp only[aB];cases e:Sc l p with|true=>rfl|false=>have a:=Eb e;simp only[Il,IQ];rw[lQ (h:=32) (j:=32) rfl (by omega)];simp only[aB];rw[w6 (by omega) (by simp;omega)];simp only[aB];have a:decide (16≤(Qe m.Replay (o.take 32)).length)=true:=Io (by rw[lR];omega);rw[a,Im];have a:List.take 16 (Qe m.Replay (o.take 32))=uV m.Replay (o.take 32):=rfl;rw[a];cases d:decide (l>1) with|true=>have:=Ir d;simp only[Im];rw[Cj (by omega)];rfl|false=>have:=II d;simp only[Il];rw[DB (by omega)];rfl
theorem Gg {key c:List Int} {l:Int} (a:key.length<2^30) (d:aV c):gf key l c=some (kh key l c):=by
 unfold gf kh
 simp only[Ck,aB]
 have e:(bif (key.length:Int) != 32 then some true else some ((bW l:Int)==0):Option Bool)=some (key.length != 32||bW l==0):=by
  have a:((key.length:Int) != 32)=(key.length != 32):=sO (n:=32)
  have b:((bW l:Int)==0)=(bW l==0):=uz (n:=bW l) (m:=0)
  rw[a,b];cases key.length != 32<;>rfl
 rw[e]
 simp only[aB]
 cases a:(key.length != 32||bW l==0) with
 |true=>rfl
 |false=>
  rw[Iy] at a
  have e:key.length=32:=by simpa using a.1
  obtain⟨f,f,f⟩:=Ah (l:=l) (by simpa using a.2)
  simp only[Il]
  rw[Hq rfl (uT l)]
  simp only[aB]
  cases f:((zJ c (bW l)).2 != 0) with
  |true=>rfl
  |false=>
   obtain⟨c1,c2⟩:=Gf f
   simp only[Il]
   rw[c2]
   have f:(c.take (bW l)).length=bW l:=by rw[IM];omega
   have f:aV (c.take (bW l)):=λb h=>d b (Jo h)
   generalize c.take (bW l)=o at*
   unfold Cn
   have nl:(o.take 16).length=16:=by rw[IM];omega
   have b:(o.drop 32).length=bW l - 32:=by rw[IZ];omega
   rw[aY (λi=>((i:Int),cD 16 (λj=>o.getD j 0) (λ_=>0) i,cD 16 (λj=>o.getD (16+j) 0) (λ_=>0) i)) 0 16 (r:=(o.take 16,(o.take 32).drop 16)) (by omega) ?_ ?_ (by rfl)]
   rotate_left
   · intro i _ b
     have a:decide ((i:Int)<16)=true:=Io (by omega)
     simp only[a,Im]
     rw[aK (xs:=o) (z:=(i:Int)) rfl (by omega),wrap64 (x:=16+(i:Int)) (by omega),aK (xs:=o) (z:=16+(i:Int)) (i:=16+i) (by omega) (by omega)]
     simp only[aB]
     rw[eL rfl (by omega),eL rfl (by omega)]
     simp only[aB,Iq]
     rw[wrap64 (by omega),dT (f:=λj=>o.getD j 0) (by omega) rfl,dT (f:=λj=>o.getD (16+j) 0) (by omega) rfl];rfl
   · have a:decide (((16:Nat):Int)<16)=false:=by decide
     simp only[a,Il]
     rw[gP,gP]
     have d:(List.range 16).map (λj=>o.getD j 0)=o.take 16:=by
      apply kW
      · simp;omega
      · intro j f;simp at f;simp[f,JB]
     have h:(List.range 16).map (λj=>o.getD (16+j) 0)=(o.take 32).drop 16:=by
      apply kW
      · simp;omega
      · intro j f;simp at f;simp[f,JB,Jc,show 16+j<32 by omega]
     rw[d,h]
   simp only[aB]
   rw[wV e nl]
   obtain⟨d,e,e⟩:=Ai key (o.take 16)
   have e:=Aj key (o.take 16)
   simp only[aB]
   generalize m6 key (o.take 16)=f at*
   rw[lx (l:=32) (i:=32) (j:=o.length) rfl rfl (by omega) (IL _)]
   simp only[aB,IY]
   rw[Hr (by omega) nl (by omega)]
   simp only[aB]
   cases ((o.take 32).drop 16 != Rh f l (o.take 16) (o.drop 32)) with
   |true=>rfl
   | false =>
     simp only[Il]
     rw[BM d e (by simp) (by omega)]
     simp only[aB]
     have d:=vN f.Box (List.replicate 16 0) (o.drop 32)
     have pb:=pR f.Box (List.replicate 16 0) (o.drop 32)
     generalize nT f.Box (List.replicate 16 0) (o.drop 32)=p at*
     rw[aK (z:=0) (i:=0) rfl (by omega),aK (z:=1) (i:=1) rfl (by omega)]
     simp only[aB]
     have d:=gK pb 0
     have d:=gK pb 1
     have d:=xa pb
     have d:wrap .i64 ((wrap .i64 (256*(wrap .i64 (p.getD 0 0))))+(wrap .i64 (p.getD 1 0)))=(lb p:Int):=by
      rw[wrap64 (x:=p.getD 0 0) (by omega),wrap64 (x:=p.getD 1 0) (by omega),wrap64 (x:=256*p.getD 0 0) (by omega),wrap64 (by omega)]
      unfold lb;omega
     rw[d,wrap64 (x:=(bW l:Int) - 34) (by omega)]
     have d:(decide (lb p>bW l - 34)||nz (p.drop (2+lb p)))=false→((p.take (2+lb p)).drop 2).length≤bW l - 34:=Eb
     have e:Sc l p=(decide (lb p>bW l - 34)||nz (p.drop (2+lb p))):=rfl
     have f:RE p=(p.take (2+lb p)).drop 2:=rfl
     rw[e,f]
     clear e f
     generalize lb p=n at*
     cases e:decide (n>bW l - 34) with
     |true=>
      have:decide ((n:Int)>(bW l:Int) - 34)=true:=Io (by have:=Ir e;omega)
      rw[this];rfl
     |false=>
      have f:=II e
      have:decide ((n:Int)>(bW l:Int) - 34)=false:=Ip (by omega)
      rw[this,Il,wrap64 (x:=2+(n:Int)) (by omega)]
      rw[qk (p:=λi=>p.getD i 0 != 0) (good:= .inl ()) (bad:= .inr (nY,71)) (nz (p.drop (2+n))) (2+n) p.length (by omega) Bi ?_ (dS (Ip (by omega))) (by omega)]
      · rw[e] at d
        simp only[Kr] at d⊢
        cases e:nz (p.drop (2+n)) with
        |true=>rfl
        |false=>
         have d:=d e
         simp only[Il,aB]
         rw[lQ (h:=32) (j:=32) rfl (by omega)]
         simp only[aB]
         rw[Cm (by omega) (by simp;omega)]
         simp only[aB]
         rw[lx (l:=2) (i:=2) (j:=2+n) rfl (by omega) (by omega) (by omega)]
         simp only[aB]
         cases d:decide (l>1) with
         |true=>
          have:=Ir d
          simp only[Im]
          rw[Ea (by omega)];rfl
         |false=>
          have:=II d
          simp only[Il]
          rw[E4 (by omega)];rfl
      · intro i d b
        have a:decide ((i:Int)<(p.length:Int))=true:=Io (by omega)
        rw[a,Im,aK rfl b]
        simp only[aB]
        rw[wrap64 (by omega)];cases p.getD i 0 != 0<;>rfl
def HP:List Int:=[99,104,117,114,110,32,104,111,112]
def W6 (e:Int):List Int:=(List.range 8).map λi=>wrap .u8 (ef .i64 e ((56 - 8*i:Nat):Int))
def SS (key:List Int) (e:Int):Bool:=key.length != 32||decide (e<0)||decide (e>4611686018427387904)
def q5 (key:List Int) (e:Int):List Int×Int:=bif SS key e then([],2) else(v6 key (W6 e) HP 32,0)
theorem Ak {key:List Int} {e:Int}:kK key e=some (q5 key e):=by unfold kK q5;have a:((key.length:Int) != 32)=(key.length != 32):=sO (n:=32);have b:SS key e=(key.length != 32||decide (e<0)||decide (e>4611686018427387904)):=rfl;rw[a,←b];cases a:SS key e with|true=>rfl|false=>rw[b,Iy,Iy] at a;(have b:key.length=32:=by simpa using a.1.1);(have g:pJ 8 8=true:=by decide);(have a:decide (0<[99,104,117,114,110,32,104,111,112].length)=true:=by decide);simp only[Il];have b:[99,104,117,114,110,32,104,111,112]=HP:=rfl;rw[g,Im,a,b];simp only[Im];rw[aY (λi=>(cD 8 (λi=>wrap .u8 (ef .i64 e ((56 - 8*i:Nat):Int))) (λ_=>0) i,(i:Int))) 0 8 (r:=W6 e) (by omega) ?_ ?_ (by rfl)];simp only[aB];rw[xX (z:=32) (n:=32) rfl (by omega) (by omega) (by simp[W6]) (by simp[HP])];simp only[aB];intro i _ a;have b:decide ((i:Int)<((List.replicate (Int.toNat 8) (0:Int)).length:Int))=true:=Io (by simp;omega);simp only[b,Im];rw[wrap64 (x:=8*(i:Int)) (by omega),wrap64 (x:=56 - 8*(i:Int)) (by omega)];have c:decide (0≤56 - 8*(i:Int))=true:=Io (by omega);rw[c,Im,eL rfl a];simp only[aB,Iq];(have c:56 - 8*(i:Int)=((56 - 8*i:Nat):Int):=by omega);rw[wrap64 (by omega),c,dT (f:=λi=>wrap .u8 (ef .i64 e ((56 - 8*i:Nat):Int))) a rfl];rfl;(have b:decide (((8:Nat):Int)<((List.replicate (Int.toNat 8) (0:Int)).length:Int))=false:=by decide);simp only[b,Il];rw[gP];rfl
theorem Ec {key:List Int} {e:Int}:hZ key e=some (q5 key e):=by unfold hZ q5;have a:((key.length:Int) != 32)=(key.length != 32):=sO (n:=32);have b:SS key e=(key.length != 32||decide (e<0)||decide (e>4611686018427387904)):=rfl;rw[a,←b];cases a:SS key e with|true=>rfl|false=>rw[b,Iy,Iy] at a;(have b:key.length=32:=by simpa using a.1.1);(have a:decide (0<[99,104,117,114,110,32,104,111,112].length)=true:=by decide);simp only[Il];have b:[99,104,117,114,110,32,104,111,112]=HP:=rfl;rw[a,b];simp only[Im];rw[aY (λi=>((List.range i).map (λi=>wrap .u8 (ef .i64 e ((56 - 8*i:Nat):Int))),56 - 8*(i:Int))) 0 8 (r:=W6 e) (by omega) ?_ (dS rfl) (by rfl)];simp only[aB];rw[xY (z:=32) (n:=32) rfl (by omega) (by omega) (by simp[W6]) (by simp[HP])];simp only[aB];intro i _ a;have a:decide (56 - 8*(i:Int)≥0)=true:=Io (by omega);simp only[a,Im];rw[ko (x:=56 - 8*(i:Int)) (by omega)];have a:decide (0≤56 - 8*(i:Int))=true:=Io (by omega);rw[a,Im,aW (by simp[dJ];omega)];simp only[aB];(have a:56 - 8*(i:Int)=((56 - 8*i:Nat):Int):=by omega);(have b:((56 - 8*i:Nat):Int) - 8=56 - 8*((i+1:Nat):Int):=by omega);rw[wrap64 (by omega),a,b,Ky,Jn];rfl
theorem uX {key:List Int} {e:Int} (h:(q5 key e).2=0):(q5 key e).1.length=32:=by unfold q5 at h⊢;cases a:SS key e with|true=>rw[a] at h;simp at h|false=>simp only[Il];exact uU _ _ _ _
end Go.Proofs.YtlkjdchmeihhkaaGreatDoor
