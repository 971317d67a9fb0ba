import Derived.Test.YtobbmodjdkcdcaaGreatDoorLawAes3
set_option linter.all false
set_option maxRecDepth 20000
set_option maxHeartbeats 2000000
namespace Go.Proofs.YtobbmodjdkcdcaaGreatDoor
open Go Go.Sim
variable [Fu]
theorem mY {α:Type} {xs ys:List α} {i:Nat} {d:α} (h:i<xs.length):(xs++ys).getD i d=xs.getD i d:=by simp[G6,h]
theorem C3 {α:Type} {xs ys:List α} {u d:α} {i:Nat} (h:i=xs.length):(xs++u::ys).getD i d=u:=by subst h;simp
theorem qK {α:Type} {xs ys:List α} {u v:α} {i:Nat} (h:i=xs.length):List.set (xs++u::ys) i v=xs++v::ys:=by subst h;simp
theorem yK {ws:List (List Int)} (h:∀w∈ws,w.length=4):ws.flatten.length=4*ws.length:=by induction ws with|nil=>rfl|cons w ws ih=>rw[H3,FM,ih λx hx=>h x (by simp[hx]),h w (by simp)];simp;omega
theorem rM:∀{ws:List (List Int)} {k j:Nat},(∀w∈ws,w.length=4)→k<ws.length→j<4→ws.flatten.getD (4*k+j) 0=(ws.getD k []).getD j 0|[],k,j,_,hk,_=>by simp at hk|w::ws,0,j,h,_,hj=>by have:=h w (by simp);rw[H3,mY (by omega)];simp|w::ws,k+1,j,h,hk,hj=>by have hw:=h w (by simp);have ih:=rM (ws:=ws) (k:=k) (j:=j) (λx hx=>h x (by simp[hx])) (by simpa using hk) hj;(have e:(w++ws.flatten).getD (4*(k+1)+j) 0=ws.flatten.getD (4*k+j) 0:=by (have h1:¬4*(k+1)+j<w.length:=by omega);(have h2:4*(k+1)+j - w.length=4*k+j:=by omega);simp[G6,h1,h2]);rw[H3,e,ih];simp
def rcs:Nat→Int|0=>1|k+1=>tw (rcs k)
theorem yL:∀k,0≤rcs k∧rcs k≤255|0=>by decide|k+1=>CW (yL k)
def tword (p:List Int) (n:Nat):List Int:=bif n%4==0 then[xorI .u8 (box (p.getD 1 0)) (rcs ((n - 1) / 4)),box (p.getD 2 0),box (p.getD 3 0),box (p.getD 0 0)] else p
def nw (ws:List (List Int)) (n:Nat):List Int:=(List.range 4).map λj=>xorI .u8 ((ws.getD (n - 4) []).getD j 0) ((tword (ws.getD (n - 1) []) n).getD j 0)
def w0 (a:List Int) (i:Nat):List Int:=(List.range 4).map λj=>a.getD (4*i+j) 0
def wsA (a:List Int):Nat→List (List Int)|0=>(List.range 4).map (w0 a)|m+1=>wsA a m++[nw (wsA a m) (m+4)]
theorem qL (a:List Int):∀m,(wsA a m).length=m+4|0=>by simp[wsA]|m+1=>by unfold wsA;rw[FM,qL];simp
theorem tY {a:List Int} (ha:aL a):∀m,∀w∈wsA a m,w.length=4∧aL w|0,w,h=>by unfold wsA at h;obtain⟨i,_,rfl⟩:=Gu.1 h;exact⟨by simp[w0],mW λj=>fi ha _⟩|m+1,w,h=>by unfold wsA at h;rcases Gd.1 h with h|h;exact tY ha m w h;have:=GA.1 h;subst this;exact⟨by simp[nw],mW λj=>lY _ _⟩
theorem Bm {a:List Int} (ha:aL a) {m k:Nat} (hk:k<m+4):((wsA a m).getD k []).length=4∧aL ((wsA a m).getD k []):=by (have h:k<(wsA a m).length:=by rw[qL];exact hk);(have e:(wsA a m).getD k []=(wsA a m)[k]:=by simp[h]);rw[e];exact tY ha m _ (F7 h)
theorem qM {n m:Nat}:(((n:Nat):Int)==((m:Nat):Int))=(n==m):=by rw[Gk];simp only[Hj];omega
def z4:List Int:=List.replicate 4 (0:Int)
def rowK (F:List Int) (r i:Nat):List Int:=(List.range 16).map λj=>bif decide (16*r+j<4*i) then F.getD (16*r+j) 0 else 0
def keyF (a:List Int):List Int:=(wsA a 40).flatten
theorem B5 {a:List Int} (hl:a.length=16) (ha:aL a):lv a=some ⟨(List.range 11).map λr=>(List.range 16).map λj=>(keyF a).getD (16*r+j) 0⟩:=by
 unfold lv
 obtain⟨W,hW⟩:∃W,W=wsA a:=⟨_,rfl⟩
 have hW0:W 0=(List.range 4).map (w0 a):=by rw[hW];rfl
 have hWS:∀m,W (m+1)=W m++[nw (W m) (m+4)]:=by rw[hW];intro m;rfl
 have hWl:∀m,(W m).length=m+4:=by rw[hW];exact qL a
 have hWo:∀{m k:Nat},k<m+4→((W m).getD k []).length=4∧aL ((W m).getD k []):=by rw[hW];exact λh=>Bm ha h
 -- the key itself
 rw[aP (λi=>((i:Int),part1 44 (w0 a) (λ_=>List.replicate 4 (0:Int)) i)) 0 4 (r:=W 0++List.replicate 40 z4) (by omega) ?_ ?_ (by rfl)]
 rotate_left
 · intro i _ hi
   have h1:decide ((i:Int)<4)=true:=by simp;omega
   simp only[h1,FJ]
   rw[du (i:=i) [] rfl (by rw[eU];omega)]
   simp only[ab]
   rw[wrap64 (x:=4*(i:Int)) (by omega),iX (l:=4*(i:Int)) (h:=16) (i:=4*i) (j:=16) (by omega) rfl (by omega) (by omega)]
   simp only[ab]
   have g:decide ((Int.toNat 0)≤(Int.toNat 4)∧(Int.toNat 4)≤4)=true:=by decide
   rw[g,FJ,FP]
   have e1:(part1 44 (w0 a) (λ_=>List.replicate 4 (0:Int)) i).getD i []=List.replicate 4 0:=by
     simp[part1,show i<44 by omega]
   rw[e1]
   have e2:over (List.replicate 4 (0:Int)) (Int.toNat 0) (Int.toNat 4) ((a.take 16).drop (4*i))=w0 a i:=by
     rw[show Int.toNat 0=0 from rfl,show Int.toNat 4=4 from rfl,px (by omega) (by simp)]
     have hlen:((a.take 16).drop (4*i)).length=16 - 4*i:=by simp[hl]
     have e3:(List.replicate 4 (0:Int)).drop (0+min ((a.take 16).drop (4*i)).length (4 - 0))=[]:=by
       rw[hlen];apply HC;simp;omega
     rw[e3]
     apply iB
     · simp[w0,hl];omega
     · intro j hj
       have hj4:j<4:=by simp at hj;omega
       have:4*i+j<16:=by omega
       simp[w0,hj4,this,GN,Gq]
   rw[e2,cV (f:=w0 a) (by omega) rfl,wrap64 (by omega)];rfl
 · have h2:decide (((4:Nat):Int)<4)=false:=by decide
   simp only[h2,FI]
   rw[hW0];rfl
 simp only[ab]
 -- the other words
 rw[aP (λn=>(rcs ((n - 1) / 4),(n:Int),W (n - 4)++List.replicate (44 - n) z4)) 4 44 (r:=W 40) (by omega) ?_ ?_ (by rfl)]
 rotate_left
 · intro n hn1 hn
   have h1:decide ((n:Int)<44)=true:=by simp;omega
   simp only[h1,FJ]
   obtain⟨m,rfl⟩:∃m,n=m+4:=⟨n - 4,by omega⟩
   simp only[Hz]
   have hl4:=hWl m
   rw[wrap64 (x:=((m+4:Nat):Int) - 1) (by omega),wrap64 (x:=((m+4:Nat):Int) - 4) (by omega),wrap64 (x:=((m+4:Nat):Int)+1) (by omega)]
   rw[du (i:=m+3) [] (by omega) (by rw[FM];omega),mY (by omega)]
   simp only[ab]
   obtain⟨p1,p2⟩:=hWo (m:=m) (k:=m+3) (by omega)
   obtain⟨q1,q2⟩:=hWo (m:=m) (k:=m) (by omega)
   have hnw:nw (W m) (m+4)=(List.range 4).map λj=>xorI .u8 (((W m).getD m []).getD j 0) ((tword ((W m).getD (m+3) []) (m+4)).getD j 0):=rfl
   have hW':=hWS m
   generalize (W m).getD (m+3) []=p at*
   have e1:(bif (Int.tmod ((m+4:Nat):Int) 4)==0 then
         (idx p 1).bind λx1916=>
         (cK x1916).bind λy1918=>
         (idx p 2).bind λx1920=>
         (cK x1920).bind λy1922=>
         (idx p 3).bind λx1924=>
         (cK x1924).bind λy1926=>
         (idx p 0).bind λx1928=>
         (cK x1928).bind λy1930=>
         (eO 2 (rcs ((m+4 - 1) / 4))).bind λy1932=>
         some (y1932,[xorI .u8 y1918 (rcs ((m+4 - 1) / 4)),y1922,y1926,y1930])
       else
         some (rcs ((m+4 - 1) / 4),p)
         :Option (Int×(List Int)))=some (rcs ((m+5 - 1) / 4),tword p (m+4)):=by
     have ec:((Int.tmod ((m+4:Nat):Int) 4)==0)=((m+4)%4==0):=qM (n:=(m+4)%4) (m:=0)
     rw[ec]
     unfold tword
     cases hc:((m+4)%4==0) with
     | true =>
       have hc':=Hj.1 hc
       simp only[FJ]
       rw[ar (z:=1) (i:=1) rfl (by omega),ar (z:=2) (i:=2) rfl (by omega),ar (z:=3) (i:=3) rfl (by omega),ar (z:=0) (i:=0) rfl (by omega)]
       simp only[ab]
       have fs:∀i,cK (p.getD i 0)=some (box (p.getD i 0)):=λi=>rK (fi p2 i)
       rw[fs,fs,fs,fs,rF,mul2 (yL _)]
       simp only[ab]
       have:(m+5 - 1) / 4=(m+4 - 1) / 4+1:=by omega
       rw[this];rfl
     | false =>
       have hc':¬(m+4)%4=0:=by simpa using hc
       have:(m+5 - 1) / 4=(m+4 - 1) / 4:=by omega
       rw[this];rfl
   rw[e1]
   simp only[ab]
   have tl:(tword p (m+4)).length=4:=by
     unfold tword;cases (m+4)%4==0
     · exact p1
     · rfl
   generalize tword p (m+4)=t at*
   have erep:List.replicate (44 - (m+4)) z4=part1 4 (λj=>xorI .u8 (((W m).getD m []).getD j 0) (t.getD j 0)) (λ_=>0) 0::List.replicate (43 - (m+4)) z4:=by
     have:44 - (m+4)=(43 - (m+4))+1:=by omega
     rw[this,GU];rfl
   rw[erep]
   rw[aP (λj=>((j:Int),W m++part1 4 (λj=>xorI .u8 (((W m).getD m []).getD j 0) (t.getD j 0)) (λ_=>0) j::List.replicate (43 - (m+4)) z4)) 0 4 (r:=W (m+1)++List.replicate (43 - (m+4)) z4) (by omega) ?_ ?_ (by rfl)]
   · simp only[ab]
     have:44 - (m+4+1)=43 - (m+4):=by omega
     have h3:m+4+1 - 4=m+1:=by omega
     rw[this,h3];rfl
   · intro j _ hj
     have h2:decide ((j:Int)<4)=true:=by simp;omega
     simp only[h2,FJ]
     rw[du (z:=((m+4:Nat):Int) - 4) (i:=m) [] (by omega) (by rw[FM];omega),mY (by omega)]
     simp only[ab]
     rw[ar (i:=j) rfl (by omega),ar (i:=j) rfl (by omega)]
     simp only[ab]
     rw[du (z:=((m+4:Nat):Int)) (i:=m+4) [] rfl (by rw[FM,hl4];simp),C3 hl4.symm]
     simp only[ab]
     rw[dp rfl hj]
     simp only[ab,FP]
     rw[wrap64 (by omega),qK hl4.symm,cV (f:=λj=>xorI .u8 (((W m).getD m []).getD j 0) (t.getD j 0)) hj rfl];rfl
   · have h2:decide (((4:Nat):Int)<4)=false:=by decide
     simp only[h2,FI]
     rw[fv,hW',hnw,F6];rfl
 · have h2:decide (((44:Nat):Int)<44)=false:=by decide
   simp only[h2,FI]
   simp
 simp only[ab]
 -- laid in rows
 have hF:keyF a=(W 40).flatten:=by rw[hW];rfl
 have hW4:∀w∈W 40,w.length=4:=by rw[hW];exact λw h=>(tY ha 40 w h).1
 have hfg:∀k j,k<44→j<4→((W 40).flatten).getD (4*k+j) 0=((W 40).getD k []).getD j 0:=λk j h1 h2=>rM hW4 (by rw[hWl];exact h1) h2
 rw[hF]
 generalize (W 40).flatten=F at*
 rw[aP (λi=>((i:Int),(⟨(List.range 11).map λr=>rowK F r i⟩:aS))) 0 44 (r:=⟨(List.range 11).map λr=>(List.range 16).map λj=>F.getD (16*r+j) 0⟩) (by omega) ?_ ?_ (by rfl)]
 · rfl
 · intro i _ hi
   have h1:decide ((i:Int)<44)=true:=by simp;omega
   simp only[h1,FJ]
   have hw4:=hWl 40
   rw[du (i:=i) [] rfl (by omega)]
   simp only[ab]
   have d4:Int.tdiv (i:Int) 4=((i / 4:Nat):Int):=rfl
   have m4:Int.tmod (i:Int) 4=((i%4:Nat):Int):=rfl
   rw[d4,m4,wrap64 (x:=((i / 4:Nat):Int)) (by omega),wrap64 (x:=((i%4:Nat):Int)*4) (by omega),wrap64 (by omega)]
   have hr:i / 4<11:=by omega
   rw[du (i:=i / 4) [] rfl (by simp;omega)]
   simp only[ab]
   have t4:Int.toNat (((i%4:Nat):Int)*4)=i%4*4:=by omega
   have g1:decide ((0:Int)≤((i%4:Nat):Int)*4∧((i%4:Nat):Int)*4≤16∧(16:Int)≤16)=true:=FK (by omega)
   have g2:decide (Int.toNat (((i%4:Nat):Int)*4)≤Int.toNat 16∧Int.toNat 16≤16)=true:=FK (by omega)
   rw[g1,g2,FJ,FJ,t4,FP]
   have er:((List.range 11).map λr=>rowK F r i).getD (i / 4) []=rowK F (i / 4) i:=by simp[hr]
   rw[er]
   have ew:=(hWo (m:=40) (k:=i) (by omega)).1
   have hfi:=λj h=>hfg i j hi h
   generalize (W 40).getD i []=w at*
   have e16:Int.toNat 16=16:=rfl
   have erow:over (rowK F (i / 4) i) (i%4*4) 16 w=rowK F (i / 4) (i+1):=by
     have lr:∀i r,(rowK F r i).length=16:=λi r=>by simp[rowK]
     apply iB
     · rw[ng (by omega) (by rw[lr];omega),lr,lr]
     · intro j hj
       rw[ng (by omega) (by rw[lr];omega),lr] at hj
       have hrow:∀i,(rowK F (i / 4) i).getD j 0=bif decide (16*(i / 4)+j<4*i) then F.getD (16*(i / 4)+j) 0 else 0:=λi=>by simp[rowK,hj]
       have hrow2:(rowK F (i / 4) (i+1)).getD j 0=bif decide (16*(i / 4)+j<4*(i+1)) then F.getD (16*(i / 4)+j) 0 else 0:=by simp[rowK,hj]
       rw[hrow2]
       have hov:(over (rowK F (i / 4) i) (i%4*4) 16 w).getD j 0=bif decide (i%4*4≤j∧j<i%4*4+4) then w.getD (j - i%4*4) 0 else(rowK F (i / 4) i).getD j 0:=by
         unfold over
         rw[GW,G6,G6]
         simp only[FM,Ga,lr,ew]
         have m1:min (i%4*4) 16=i%4*4:=by omega
         have m2:min (16 - i%4*4) 4=4:=by omega
         have m3:min 4 (16 - i%4*4)=4:=by omega
         rw[m1,m2,m3]
         by_cases j1:j<i%4*4
         · have d:decide (i%4*4≤j∧j<i%4*4+4)=false:=FL (by omega)
           rw[Gz (by omega),Gz j1,d];simp[GN,j1]
         · by_cases j2:j<i%4*4+4
           · have d:decide (i%4*4≤j∧j<i%4*4+4)=true:=FK (by omega)
             have j4:j - i%4*4<16 - i%4*4:=by omega
             rw[Gz j2,Gt j1,d];simp[GN,j4]
           · have d:decide (i%4*4≤j∧j<i%4*4+4)=false:=FL (by omega)
             have:i%4*4+4+(j - (i%4*4+4))=j:=by omega
             rw[Gt j2,d];simp[Gq,this]
       rw[hov,hrow]
       by_cases h:i%4*4≤j∧j<i%4*4+4
       · have d:decide (i%4*4≤j∧j<i%4*4+4)=true:=FK h
         have d2:decide (16*(i / 4)+j<4*(i+1))=true:=FK (by omega)
         have e5:4*i+(j - i%4*4)=16*(i / 4)+j:=by omega
         rw[d,d2,FJ,FJ,←hfi (j - i%4*4) (by omega),e5]
       · have d:decide (i%4*4≤j∧j<i%4*4+4)=false:=FL h
         have d2:decide (16*(i / 4)+j<4*i)=decide (16*(i / 4)+j<4*(i+1)):=by rw[Gk];simp only[FX];omega
         rw[d,d2,FI]
   rw[e16,erow]
   have eall:List.set ((List.range 11).map λr=>rowK F r i) (i / 4) (rowK F (i / 4) (i+1))=(List.range 11).map λr=>rowK F r (i+1):=by
     apply G3
     · simp
     · intro k k1 k2
       have hk:k<11:=by simpa using k2
       simp only[HS,HU,HE]
       by_cases e:i / 4=k
       · rw[Gz e,e]
       · rw[Gt e]
         unfold rowK
         apply G2
         intro j hj
         have hj:=GY.1 hj
         have d2:decide (16*k+j<4*i)=decide (16*k+j<4*(i+1)):=by rw[Gk];simp only[FX];omega
         rw[d2]
   rw[eall];rfl
 · have h2:decide (((44:Nat):Int)<44)=false:=by decide
   simp only[h2,FI]
   rfl
theorem C4 {a:List Int} (hl:a.length=16) (ha:aL a):gd a=some (keyF a):=by
 unfold gd
 obtain⟨W,hW⟩:∃W,W=wsA a:=⟨_,rfl⟩
 have hW0:W 0=(List.range 4).map (w0 a):=by rw[hW];rfl
 have hWS:∀m,W (m+1)=W m++[nw (W m) (m+4)]:=by rw[hW];intro m;rfl
 have hWl:∀m,(W m).length=m+4:=by rw[hW];exact qL a
 have hW4:∀m,∀w∈W m,w.length=4:=by rw[hW];exact λm w h=>(tY ha m w h).1
 have hWo:∀{m k:Nat},k<m+4→((W m).getD k []).length=4∧aL ((W m).getD k []):=by rw[hW];exact λh=>Bm ha h
 have hF:keyF a=(W 40).flatten:=by rw[hW];rfl
 rw[hF]
 rw[aP (λi=>((i:Int),part1 176 (λj=>a.getD j 0) (λ_=>0) i)) 0 16 (r:=(W 0).flatten++List.replicate 160 0) (by omega) ?_ ?_ (by rfl)]
 rotate_left
 · intro i _ hi
   have h1:decide ((i:Int)<16)=true:=by simp;omega
   simp only[h1,FJ]
   rw[ar (xs:=a) (i:=i) rfl (by omega)]
   simp only[ab]
   rw[dp (k:=i) rfl (by omega)]
   simp only[ab]
   rw[wrap64 (by omega),FP,cV (f:=λj=>a.getD j 0) (by omega) rfl];rfl
 · have h2:decide (((16:Nat):Int)<16)=false:=by decide
   simp only[h2,FI]
   rw[hW0];rfl
 simp only[ab]
 rw[aP (λn=>(rcs ((n - 1) / 4),((4*n:Nat):Int),(W (n - 4)).flatten++List.replicate (176 - 4*n) 0)) 4 44 (r:=(W 40).flatten) (by omega) ?_ ?_ (by rfl)]
 · rfl
 · intro n hn1 hn
   have h1:decide (((4*n:Nat):Int)<176)=true:=by simp;omega
   simp only[h1,FJ]
   obtain⟨m,rfl⟩:∃m,n=m+4:=⟨n - 4,by omega⟩
   simp only[Hz]
   have hl4:=hWl m
   have hfl:=yK (hW4 m)
   have hfg:∀k j,k<m+4→j<4→((W m).flatten).getD (4*k+j) 0=((W m).getD k []).getD j 0:=λk j h1 h2=>rM (hW4 m) (by rw[hWl];exact h1) h2
   have hnw:nw (W m) (m+4)=(List.range 4).map λj=>xorI .u8 (((W m).getD m []).getD j 0) ((tword ((W m).getD (m+3) []) (m+4)).getD j 0):=rfl
   have hW':(W (m+1)).flatten=(W m).flatten++nw (W m) (m+4):=by rw[hWS];simp
   obtain⟨p1,p2⟩:=hWo (m:=m) (k:=m+3) (by omega)
   have f3:∀j,j<4→((W m).flatten).getD (4*(m+3)+j) 0=((W m).getD (m+3) []).getD j 0:=λj h=>hfg (m+3) j (by omega) h
   have f0:∀j,j<4→((W m).flatten).getD (4*m+j) 0=((W m).getD m []).getD j 0:=λj h=>hfg m j (by omega) h
   generalize (W m).getD (m+3) []=p at*
   generalize (W m).getD m []=q at*
   rw[hl4] at hfl
   generalize (W m).flatten=F at*
   have rdf:∀(z:Int) (j:Nat),z=((4*(m+3)+j:Nat):Int)→j<4→idx (F++List.replicate (176 - 4*(m+4)) 0) (IntKind.wrap .i64 z)=some (p.getD j 0):=by
    intro z j hz hj
    rw[wrap64 (by omega),ar hz (by rw[FM];omega),mY (by omega),f3 j hj]
   rw[rdf (((4*(m+4):Nat):Int) - 4) 0 (by omega) (by omega),rdf (((4*(m+4):Nat):Int) - 3) 1 (by omega) (by omega),rdf (((4*(m+4):Nat):Int) - 2) 2 (by omega) (by omega),rdf (((4*(m+4):Nat):Int) - 1) 3 (by omega) (by omega)]
   simp only[ab]
   have ib:∀i,idx ji (p.getD i 0)=some (box (p.getD i 0)):=λi=>Bi (fi p2 i)
   rw[ib,ib,ib,ib,wh]
   simp only[ab]
   have tl:(tword p (m+4)).length=4:=by
    unfold tword;cases (m+4)%4==0
    · exact p1
    · rfl
   have e1:(bif (Int.tmod ((4*(m+4):Nat):Int) 16)==0 then
       some (tw (rcs ((m+4 - 1) / 4)),xorI .u8 (box (p.getD 1 0)) (rcs ((m+4 - 1) / 4)),box (p.getD 2 0),box (p.getD 3 0),box (p.getD 0 0))
      else
       some (rcs ((m+4 - 1) / 4),p.getD 0 0,p.getD 1 0,p.getD 2 0,p.getD 3 0)
       :Option (Int×Int×Int×Int×Int))=some (rcs ((m+5 - 1) / 4),(tword p (m+4)).getD 0 0,(tword p (m+4)).getD 1 0,(tword p (m+4)).getD 2 0,(tword p (m+4)).getD 3 0):=by
    have ec:((Int.tmod ((4*(m+4):Nat):Int) 16)==0)=((m+4)%4==0):=by
      refine(qM (n:=4*(m+4)%16) (m:=0)).trans ?_
      rw[Gk];simp only[Hj];omega
    rw[ec]
    unfold tword
    cases hc:((m+4)%4==0) with
    | true =>
      have hc':=Hj.1 hc
      have:(m+5 - 1) / 4=(m+4 - 1) / 4+1:=by omega
      rw[this];rfl
    | false =>
      have hc':¬(m+4)%4=0:=by simpa using hc
      have:(m+5 - 1) / 4=(m+4 - 1) / 4:=by omega
      rw[this];rfl
   rw[e1]
   simp only[ab]
   generalize tword p (m+4)=t at*
   have erep:List.replicate (176 - 4*(m+4)) (0:Int)=0::0::0::0::List.replicate (172 - 4*(m+4)) 0:=by
    have:176 - 4*(m+4)=(172 - 4*(m+4))+1+1+1+1:=by omega
    rw[this,GU,GU,GU,GU]
   rw[erep]
   generalize hR:List.replicate (172 - 4*(m+4)) (0:Int)=R at*
   rw[wrap64 (x:=((4*(m+4):Nat):Int) - 16) (by omega),wrap64 (x:=((4*(m+4):Nat):Int) - 15) (by omega),wrap64 (x:=((4*(m+4):Nat):Int) - 14) (by omega),wrap64 (x:=((4*(m+4):Nat):Int) - 13) (by omega),wrap64 (x:=((4*(m+4):Nat):Int)+1) (by omega),wrap64 (x:=((4*(m+4):Nat):Int)+2) (by omega),wrap64 (x:=((4*(m+4):Nat):Int)+3) (by omega),wrap64 (x:=((4*(m+4):Nat):Int)+4) (by omega)]
   have n0:Int.toNat ((4*(m+4):Nat):Int)=4*(m+4):=by omega
   have n1:Int.toNat (((4*(m+4):Nat):Int)+1)=4*(m+4)+1:=by omega
   have n2:Int.toNat (((4*(m+4):Nat):Int)+2)=4*(m+4)+2:=by omega
   have n3:Int.toNat (((4*(m+4):Nat):Int)+3)=4*(m+4)+3:=by omega
   rw[n0,n1,n2,n3]
   have hf4:4*(m+4)=F.length:=by omega
   have old:∀(z:Int) (j:Nat) (T:List Int),z=((4*m+j:Nat):Int)→j<4→idx (F++T) z=some (q.getD j 0):=by
    intro z j T hz hj
    rw[ar hz (by rw[FM];omega),mY (by omega),f0 j hj]
   rw[old (((4*(m+4):Nat):Int) - 16) 0 _ (by omega) (by omega)]
   simp only[ab]
   rw[ar (z:=((4*(m+4):Nat):Int)) (i:=4*(m+4)) rfl (by simp;omega),qK hf4]
   simp only[ab]
   rw[old (((4*(m+4):Nat):Int) - 15) 1 _ (by omega) (by omega)]
   simp only[ab]
   rw[ar (z:=((4*(m+4):Nat):Int)+1) (i:=4*(m+4)+1) (by omega) (by simp;omega)]
   simp only[ab]
   have s1:∀v0 v1 u1 T,List.set (F++v0::u1::T) (4*(m+4)+1) v1=F++v0::v1::T:=by
    intro v0 v1 u1 T
    have:F++v0::u1::T=(F++[v0])++u1::T:=by simp
    rw[this,qK (by simp;omega)];simp
   have s2:∀v0 v1 v2 u2 T,List.set (F++v0::v1::u2::T) (4*(m+4)+2) v2=F++v0::v1::v2::T:=by
    intro v0 v1 v2 u2 T
    have:F++v0::v1::u2::T=(F++[v0,v1])++u2::T:=by simp
    rw[this,qK (by simp;omega)];simp
   have s3:∀v0 v1 v2 v3 u3 T,List.set (F++v0::v1::v2::u3::T) (4*(m+4)+3) v3=F++v0::v1::v2::v3::T:=by
    intro v0 v1 v2 v3 u3 T
    have:F++v0::v1::v2::u3::T=(F++[v0,v1,v2])++u3::T:=by simp
    rw[this,qK (by simp;omega)];simp
   rw[s1,old (((4*(m+4):Nat):Int) - 14) 2 _ (by omega) (by omega)]
   simp only[ab]
   rw[ar (z:=((4*(m+4):Nat):Int)+2) (i:=4*(m+4)+2) (by omega) (by simp;omega)]
   simp only[ab]
   rw[s2,old (((4*(m+4):Nat):Int) - 13) 3 _ (by omega) (by omega)]
   simp only[ab]
   rw[ar (z:=((4*(m+4):Nat):Int)+3) (i:=4*(m+4)+3) (by omega) (by simp;omega)]
   simp only[ab]
   rw[s3]
   have h3:m+4+1 - 4=m+1:=by omega
   have h4:176 - 4*(m+4+1)=172 - 4*(m+4):=by omega
   have h5:((4*(m+4):Nat):Int)+4=((4*(m+4+1):Nat):Int):=by omega
   rw[h3,h4,hR,hW',hnw,h5,F6];rfl
 · have h2:decide (((4*44:Nat):Int)<176)=false:=by decide
   simp only[h2,FI]
   simp
def keyR (a:List Int) (r j:Nat):Int:=(keyF a).getD (16*r+j) 0
theorem E2 (a:List Int):Bj ⟨(List.range 11).map λr=>(List.range 16).map λj=>(keyF a).getD (16*r+j) 0⟩ (keyR a) where
 n:=by simp
 l:=λr hr=>by simp[hr]
 v:=λr j hr hj=>by simp[hr,hj,keyR]
theorem Fr {a:List Int} (ha:aL a):C0 (keyF a) (keyR a) where
 n:=by unfold keyF;rw[yK (λw h=>(tY ha 40 w h).1),qL]
 v:=λr j hr hj=>rfl
end Go.Proofs.YtobbmodjdkcdcaaGreatDoor
