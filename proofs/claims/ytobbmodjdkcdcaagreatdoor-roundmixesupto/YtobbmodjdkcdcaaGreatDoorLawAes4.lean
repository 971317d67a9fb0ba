import Derived.Test.YtobbmodjdkcdcaaGreatDoorLawAes3
set_option autoImplicit true
set_option relaxedAutoImplicit true
set_option linter.all false
set_option maxRecDepth 20000
set_option maxHeartbeats 2000000
namespace Go.Proofs.YtobbmodjdkcdcaaGreatDoor
open Go Go.Sim
variable [Fu]
theorem pf {α:Type} {xs ys:List α} {i:Nat} {d:α} (h:i<xs.length):(xs++ys).getD i d=xs.getD i d:=by simp[IC,h]
theorem EJ {α:Type} {xs ys:List α} {u d:α} {i:Nat} (h:i=xs.length):(xs++u::ys).getD i d=u:=by subst h;simp
theorem sU {α:Type} {xs ys:List α} {u v:α} {i:Nat} (h:i=xs.length):List.set (xs++u::ys) i v=xs++v::ys:=by subst h;simp
theorem AO {ws:List (List Int)} (h:∀w∈ws,w.length=4):ws.flatten.length=4*ws.length:=by induction ws with|nil=>rfl|cons w ws ih=>rw[JG,Hu,ih λx hx=>h x (by simp[hx]),h w (by simp)];simp;omega
theorem um:∀{ws:List (List Int)} {k j:Nat},(∀w∈ws,w.length=4)→k<ws.length→j<4→ws.flatten.getD (4*k+j) 0=(ws.getD k []).getD j 0|[],k,j,_,hk,_=>by simp at hk|w::ws,0,j,h,_,hj=>by have:=h w (by simp);rw[JG,pf (by omega)];simp|w::ws,k+1,j,h,hk,hj=>by have hw:=h w (by simp);have ih:=um (ws:=ws) (k:=k) (j:=j) (λx hx=>h x (by simp[hx])) (by simpa using hk) hj;(have e:(w++ws.flatten).getD (4*(k+1)+j) 0=ws.flatten.getD (4*k+j) 0:=by (have h1:¬4*(k+1)+j<w.length:=by omega);(have h2:4*(k+1)+j - w.length=4*k+j:=by omega);simp[IC,h1,h2]);rw[JG,e,ih];simp
def Ul:Nat→Int|0=>1|k+1=>tw (Ul k)
theorem AP:∀k,0≤Ul k∧Ul k≤255|0=>by decide|k+1=>EC (AP k)
def Qm (p:List Int) (n:Nat):List Int:=bif n%4==0 then[g_ .u8 (box (p.getD 1 0)) (Ul ((n - 1) / 4)),box (p.getD 2 0),box (p.getD 3 0),box (p.getD 0 0)] else p
def nw (ws:List (List Int)) (n:Nat):List Int:=(List.range 4).map λj=>g_ .u8 ((ws.getD (n - 4) []).getD j 0) ((Qm (ws.getD (n - 1) []) n).getD j 0)
def w0 (a:List Int) (i:Nat):List Int:=(List.range 4).map λj=>a.getD (4*i+j) 0
def TS (a:List Int):Nat→List (List Int)|0=>(List.range 4).map (w0 a)|m+1=>TS a m++[nw (TS a m) (m+4)]
theorem sV (a:List Int):∀m,(TS a m).length=m+4|0=>by simp[TS]|m+1=>by unfold TS;rw[Hu,sV];simp
theorem wh {a:List Int} (ha:aT a):∀m,∀w∈TS a m,w.length=4∧aT w|0,w,h=>by unfold TS at h;obtain⟨i,_,rfl⟩:=H7.1 h;exact⟨by simp[w0],pc λj=>fW ha _⟩|m+1,w,h=>by unfold TS at h;rcases HO.1 h with h|h;exact wh ha m w h;have:=Iv.1 h;subst this;exact⟨by simp[nw],pc λj=>nR _ _⟩
theorem C9 {a:List Int} (ha:aT a) {m k:Nat} (hk:k<m+4):((TS a m).getD k []).length=4∧aT ((TS a m).getD k []):=by (have h:k<(TS a m).length:=by rw[sV];exact hk);(have e:(TS a m).getD k []=(TS a m)[k]:=by simp[h]);rw[e];exact wh ha m _ (HG h)
theorem sW {n m:Nat}:(((n:Nat):Int)==((m:Nat):Int))=(n==m):=by rw[H3];simp only[Jg];omega
def z4:List Int:=List.replicate 4 (0:Int)
def Q2 (F:List Int) (r i:Nat):List Int:=(List.range 16).map λj=>bif decide (16*r+j<4*i) then F.getD (16*r+j) 0 else 0
def Sy (a:List Int):List Int:=(TS a 40).flatten
theorem DO {a:List Int} (hl:a.length=16) (ha:aT a):nc a=some ⟨(List.range 11).map λr=>(List.range 16).map λj=>(Sy a).getD (16*r+j) 0⟩:=by
 unfold nc
 obtain⟨W,hW⟩:∃W,W=TS a:=⟨_,rfl⟩
 have M:W 0=(List.range 4).map (w0 a):=by rw[hW];rfl
 have N:∀m,W (m+1)=W m++[nw (W m) (m+4)]:=by rw[hW];intro m;rfl
 have b:∀m,(W m).length=m+4:=by rw[hW];exact sV a
 have c:∀{m k:Nat},k<m+4→((W m).getD k []).length=4∧aT ((W m).getD k []):=by rw[hW];exact λh=>C9 ha h
 -- the key O
 rw[aY (λi=>((i:Int),x_ 44 (w0 a) (λ_=>List.replicate 4 (0:Int)) i)) 0 4 (r:=W 0++List.replicate 40 z4) (by omega) ?_ ?_ (by rfl)]
 rotate_left
 · intro i _ hi
   have h1:decide ((i:Int)<4)=true:=by simp;omega
   simp only[h1,Hn]
   rw[dn (i:=i) [] rfl (by rw[fH];omega)]
   simp only[aB]
   rw[wrap64 (x:=4*(i:Int)) (by omega),ki (l:=4*(i:Int)) (h:=16) (i:=4*i) (j:=16) (by omega) rfl (by omega) (by omega)]
   simp only[aB]
   have g:decide ((Int.toNat 0)≤(Int.toNat 4)∧(Int.toNat 4)≤4)=true:=by decide
   rw[g,Hn,Hq]
   have e1:(x_ 44 (w0 a) (λ_=>List.replicate 4 (0:Int)) i).getD i []=List.replicate 4 0:=by
     simp[x_,show i<44 by omega]
   rw[e1]
   have e2:over (List.replicate 4 (0:Int)) (Int.toNat 0) (Int.toNat 4) ((a.take 16).drop (4*i))=w0 a i:=by
     rw[show Int.toNat 0=0 from rfl,show Int.toNat 4=4 from rfl,rL (by omega) (by simp)]
     have G:((a.take 16).drop (4*i)).length=16 - 4*i:=by simp[hl]
     have e3:(List.replicate 4 (0:Int)).drop (0+min ((a.take 16).drop (4*i)).length (4 - 0))=[]:=by
       rw[G];apply Jt;simp;omega
     rw[e3]
     apply jM
     · simp[w0,hl];omega
     · intro j hj
       have P:j<4:=by simp at hj;omega
       have:4*i+j<16:=by omega
       simp[w0,P,this,Iw,H5]
   rw[e2,dK (f:=w0 a) (by omega) rfl,wrap64 (by omega)];rfl
 · have h2:decide (((4:Nat):Int)<4)=false:=by decide
   simp only[h2,Hm]
   rw[M];rfl
 simp only[aB]
 -- the Z aa
 rw[aY (λn=>(Ul ((n - 1) / 4),(n:Int),W (n - 4)++List.replicate (44 - n) z4)) 4 44 (r:=W 40) (by omega) ?_ ?_ (by rfl)]
 rotate_left
 · intro n ac hn
   have h1:decide ((n:Int)<44)=true:=by simp;omega
   simp only[h1,Hn]
   obtain⟨m,rfl⟩:∃m,n=m+4:=⟨n - 4,by omega⟩
   simp only[Jp]
   have o:=b m
   rw[wrap64 (x:=((m+4:Nat):Int) - 1) (by omega),wrap64 (x:=((m+4:Nat):Int) - 4) (by omega),wrap64 (x:=((m+4:Nat):Int)+1) (by omega)]
   rw[dn (i:=m+3) [] (by omega) (by rw[Hu];omega),pf (by omega)]
   simp only[aB]
   obtain⟨p1,p2⟩:=c (m:=m) (k:=m+3) (by omega)
   obtain⟨q1,q2⟩:=c (m:=m) (k:=m) (by omega)
   have Q:nw (W m) (m+4)=(List.range 4).map λj=>g_ .u8 (((W m).getD m []).getD j 0) ((Qm ((W m).getD (m+3) []) (m+4)).getD j 0):=rfl
   have R:=N m
   generalize (W m).getD (m+3) []=p at*
   have e1:(bif (Int.tmod ((m+4:Nat):Int) 4)==0 then
         (idx p 1).bind λq=>
         (di q).bind λs=>
         (idx p 2).bind λu=>
         (di u).bind λv=>
         (idx p 3).bind λy=>
         (di y).bind λA=>
         (idx p 0).bind λB=>
         (di B).bind λC=>
         (fA 2 (Ul ((m+4 - 1) / 4))).bind λD=>
         some (D,[g_ .u8 s (Ul ((m+4 - 1) / 4)),v,A,C])
       else
         some (Ul ((m+4 - 1) / 4),p)
         :Option (Int×(List Int)))=some (Ul ((m+5 - 1) / 4),Qm p (m+4)):=by
     have ec:((Int.tmod ((m+4:Nat):Int) 4)==0)=((m+4)%4==0):=sW (n:=(m+4)%4) (m:=0)
     rw[ec]
     unfold Qm
     cases hc:((m+4)%4==0) with
     | true =>
       have S:=Jg.1 hc
       simp only[Hn]
       rw[aJ (z:=1) (i:=1) rfl (by omega),aJ (z:=2) (i:=2) rfl (by omega),aJ (z:=3) (i:=3) rfl (by omega),aJ (z:=0) (i:=0) rfl (by omega)]
       simp only[aB]
       have fs:∀i,di (p.getD i 0)=some (box (p.getD i 0)):=λi=>ul (fW p2 i)
       rw[fs,fs,fs,fs,uk,Vn (AP _)]
       simp only[aB]
       have:(m+5 - 1) / 4=(m+4 - 1) / 4+1:=by omega
       rw[this];rfl
     | false =>
       have S:¬(m+4)%4=0:=by simpa using hc
       have:(m+5 - 1) / 4=(m+4 - 1) / 4:=by omega
       rw[this];rfl
   rw[e1]
   simp only[aB]
   have tl:(Qm p (m+4)).length=4:=by
     unfold Qm;cases (m+4)%4==0
     · exact p1
     · rfl
   generalize Qm p (m+4)=t at*
   have H:List.replicate (44 - (m+4)) z4=x_ 4 (λj=>g_ .u8 (((W m).getD m []).getD j 0) (t.getD j 0)) (λ_=>0) 0::List.replicate (43 - (m+4)) z4:=by
     have:44 - (m+4)=(43 - (m+4))+1:=by omega
     rw[this,Iy];rfl
   rw[H]
   rw[aY (λj=>((j:Int),W m++x_ 4 (λj=>g_ .u8 (((W m).getD m []).getD j 0) (t.getD j 0)) (λ_=>0) j::List.replicate (43 - (m+4)) z4)) 0 4 (r:=W (m+1)++List.replicate (43 - (m+4)) z4) (by omega) ?_ ?_ (by rfl)]
   · simp only[aB]
     have:44 - (m+4+1)=43 - (m+4):=by omega
     have h3:m+4+1 - 4=m+1:=by omega
     rw[this,h3];rfl
   · intro j _ hj
     have h2:decide ((j:Int)<4)=true:=by simp;omega
     simp only[h2,Hn]
     rw[dn (z:=((m+4:Nat):Int) - 4) (i:=m) [] (by omega) (by rw[Hu];omega),pf (by omega)]
     simp only[aB]
     rw[aJ (i:=j) rfl (by omega),aJ (i:=j) rfl (by omega)]
     simp only[aB]
     rw[dn (z:=((m+4:Nat):Int)) (i:=m+4) [] rfl (by rw[Hu,o];simp),EJ o.symm]
     simp only[aB]
     rw[eg rfl hj]
     simp only[aB,Hq]
     rw[wrap64 (by omega),sU o.symm,dK (f:=λj=>g_ .u8 (((W m).getD m []).getD j 0) (t.getD j 0)) hj rfl];rfl
   · have h2:decide (((4:Nat):Int)<4)=false:=by decide
     simp only[h2,Hm]
     rw[ge,R,Q,HS];rfl
 · have h2:decide (((44:Nat):Int)<44)=false:=by decide
   simp only[h2,Hm]
   simp
 simp only[aB]
 -- laid in ab
 have hF:Sy a=(W 40).flatten:=by rw[hW];rfl
 have T:∀w∈W 40,w.length=4:=by rw[hW];exact λw h=>(wh ha 40 w h).1
 have U:∀k j,k<44→j<4→((W 40).flatten).getD (4*k+j) 0=((W 40).getD k []).getD j 0:=λk j h1 h2=>um T (by rw[b];exact h1) h2
 rw[hF]
 generalize (W 40).flatten=F at*
 rw[aY (λi=>((i:Int),(⟨(List.range 11).map λr=>Q2 F r i⟩:br))) 0 44 (r:=⟨(List.range 11).map λr=>(List.range 16).map λj=>F.getD (16*r+j) 0⟩) (by omega) ?_ ?_ (by rfl)]
 · rfl
 · intro i _ hi
   have h1:decide ((i:Int)<44)=true:=by simp;omega
   simp only[h1,Hn]
   have ad:=b 40
   rw[dn (i:=i) [] rfl (by omega)]
   simp only[aB]
   have d4:Int.tdiv (i:Int) 4=((i / 4:Nat):Int):=rfl
   have m4:Int.tmod (i:Int) 4=((i%4:Nat):Int):=rfl
   rw[d4,m4,wrap64 (x:=((i / 4:Nat):Int)) (by omega),wrap64 (x:=((i%4:Nat):Int)*4) (by omega),wrap64 (by omega)]
   have hr:i / 4<11:=by omega
   rw[dn (i:=i / 4) [] rfl (by simp;omega)]
   simp only[aB]
   have t4:Int.toNat (((i%4:Nat):Int)*4)=i%4*4:=by omega
   have g1:decide ((0:Int)≤((i%4:Nat):Int)*4∧((i%4:Nat):Int)*4≤16∧(16:Int)≤16)=true:=Ho (by omega)
   have g2:decide (Int.toNat (((i%4:Nat):Int)*4)≤Int.toNat 16∧Int.toNat 16≤16)=true:=Ho (by omega)
   rw[g1,g2,Hn,Hn,t4,Hq]
   have er:((List.range 11).map λr=>Q2 F r i).getD (i / 4) []=Q2 F (i / 4) i:=by simp[hr]
   rw[er]
   have ew:=(c (m:=40) (k:=i) (by omega)).1
   have V:=λj h=>U i j hi h
   generalize (W 40).getD i []=w at*
   have X:Int.toNat 16=16:=rfl
   have I:over (Q2 F (i / 4) i) (i%4*4) 16 w=Q2 F (i / 4) (i+1):=by
     have lr:∀i r,(Q2 F r i).length=16:=λi r=>by simp[Q2]
     apply jM
     · rw[pN (by omega) (by rw[lr];omega),lr,lr]
     · intro j hj
       rw[pN (by omega) (by rw[lr];omega),lr] at hj
       have K:∀i,(Q2 F (i / 4) i).getD j 0=bif decide (16*(i / 4)+j<4*i) then F.getD (16*(i / 4)+j) 0 else 0:=λi=>by simp[Q2,hj]
       have E:(Q2 F (i / 4) (i+1)).getD j 0=bif decide (16*(i / 4)+j<4*(i+1)) then F.getD (16*(i / 4)+j) 0 else 0:=by simp[Q2,hj]
       rw[E]
       have Y:(over (Q2 F (i / 4) i) (i%4*4) 16 w).getD j 0=bif decide (i%4*4≤j∧j<i%4*4+4) then w.getD (j - i%4*4) 0 else(Q2 F (i / 4) i).getD j 0:=by
         unfold over
         rw[IH,IC,IC]
         simp only[Hu,HN,lr,ew]
         have m1:min (i%4*4) 16=i%4*4:=by omega
         have m2:min (16 - i%4*4) 4=4:=by omega
         have m3:min 4 (16 - i%4*4)=4:=by omega
         rw[m1,m2,m3]
         by_cases j1:j<i%4*4
         · have d:decide (i%4*4≤j∧j<i%4*4+4)=false:=Hp (by omega)
           rw[Il (by omega),Il j1,d];simp[Iw,j1]
         · by_cases j2:j<i%4*4+4
           · have d:decide (i%4*4≤j∧j<i%4*4+4)=true:=Ho (by omega)
             have j4:j - i%4*4<16 - i%4*4:=by omega
             rw[Il j2,Ic j1,d];simp[Iw,j4]
           · have d:decide (i%4*4≤j∧j<i%4*4+4)=false:=Hp (by omega)
             have:i%4*4+4+(j - (i%4*4+4))=j:=by omega
             rw[Ic j2,d];simp[H5,this]
       rw[Y,K]
       by_cases h:i%4*4≤j∧j<i%4*4+4
       · have d:decide (i%4*4≤j∧j<i%4*4+4)=true:=Ho h
         have d2:decide (16*(i / 4)+j<4*(i+1))=true:=Ho (by omega)
         have e5:4*i+(j - i%4*4)=16*(i / 4)+j:=by omega
         rw[d,d2,Hn,Hn,←V (j - i%4*4) (by omega),e5]
       · have d:decide (i%4*4≤j∧j<i%4*4+4)=false:=Hp h
         have d2:decide (16*(i / 4)+j<4*i)=decide (16*(i / 4)+j<4*(i+1)):=by rw[H3];simp only[HB];omega
         rw[d,d2,Hm]
   rw[X,I]
   have L:List.set ((List.range 11).map λr=>Q2 F r i) (i / 4) (Q2 F (i / 4) (i+1))=(List.range 11).map λr=>Q2 F r (i+1):=by
     apply IA
     · simp
     · intro k k1 k2
       have hk:k<11:=by simpa using k2
       simp only[JK,JA,Jn]
       by_cases e:i / 4=k
       · rw[Il e,e]
       · rw[Ic e]
         unfold Q2
         apply IJ
         intro j hj
         have hj:=IY.1 hj
         have d2:decide (16*k+j<4*i)=decide (16*k+j<4*(i+1)):=by rw[H3];simp only[HB];omega
         rw[d2]
   rw[L];rfl
 · have h2:decide (((44:Nat):Int)<44)=false:=by decide
   simp only[h2,Hm]
   rfl
theorem EK {a:List Int} (hl:a.length=16) (ha:aT a):iG a=some (Sy a):=by
 unfold iG
 obtain⟨W,hW⟩:∃W,W=TS a:=⟨_,rfl⟩
 have s:W 0=(List.range 4).map (w0 a):=by rw[hW];rfl
 have u:∀m,W (m+1)=W m++[nw (W m) (m+4)]:=by rw[hW];intro m;rfl
 have d:∀m,(W m).length=m+4:=by rw[hW];exact sV a
 have e:∀m,∀w∈W m,w.length=4:=by rw[hW];exact λm w h=>(wh ha m w h).1
 have v:∀{m k:Nat},k<m+4→((W m).getD k []).length=4∧aT ((W m).getD k []):=by rw[hW];exact λh=>C9 ha h
 have hF:Sy a=(W 40).flatten:=by rw[hW];rfl
 rw[hF]
 rw[aY (λi=>((i:Int),x_ 176 (λj=>a.getD j 0) (λ_=>0) i)) 0 16 (r:=(W 0).flatten++List.replicate 160 0) (by omega) ?_ ?_ (by rfl)]
 rotate_left
 · intro i _ hi
   have h1:decide ((i:Int)<16)=true:=by simp;omega
   simp only[h1,Hn]
   rw[aJ (xs:=a) (i:=i) rfl (by omega)]
   simp only[aB]
   rw[eg (k:=i) rfl (by omega)]
   simp only[aB]
   rw[wrap64 (by omega),Hq,dK (f:=λj=>a.getD j 0) (by omega) rfl];rfl
 · have h2:decide (((16:Nat):Int)<16)=false:=by decide
   simp only[h2,Hm]
   rw[s];rfl
 simp only[aB]
 rw[aY (λn=>(Ul ((n - 1) / 4),((4*n:Nat):Int),(W (n - 4)).flatten++List.replicate (176 - 4*n) 0)) 4 44 (r:=(W 40).flatten) (by omega) ?_ ?_ (by rfl)]
 · rfl
 · intro n G hn
   have h1:decide (((4*n:Nat):Int)<176)=true:=by simp;omega
   simp only[h1,Hn]
   obtain⟨m,rfl⟩:∃m,n=m+4:=⟨n - 4,by omega⟩
   simp only[Jp]
   have y:=d m
   have A:=AO (e m)
   have l:∀k j,k<m+4→j<4→((W m).flatten).getD (4*k+j) 0=((W m).getD k []).getD j 0:=λk j h1 h2=>um (e m) (by rw[d];exact h1) h2
   have B:nw (W m) (m+4)=(List.range 4).map λj=>g_ .u8 (((W m).getD m []).getD j 0) ((Qm ((W m).getD (m+3) []) (m+4)).getD j 0):=rfl
   have C:(W (m+1)).flatten=(W m).flatten++nw (W m) (m+4):=by rw[u];simp
   obtain⟨p1,p2⟩:=v (m:=m) (k:=m+3) (by omega)
   have f3:∀j,j<4→((W m).flatten).getD (4*(m+3)+j) 0=((W m).getD (m+3) []).getD j 0:=λj h=>l (m+3) j (by omega) h
   have f0:∀j,j<4→((W m).flatten).getD (4*m+j) 0=((W m).getD m []).getD j 0:=λj h=>l m j (by omega) h
   generalize (W m).getD (m+3) []=p at*
   generalize (W m).getD m []=q at*
   rw[y] at A
   generalize (W m).flatten=F at*
   have b:∀(z:Int) (j:Nat),z=((4*(m+3)+j:Nat):Int)→j<4→idx (F++List.replicate (176 - 4*(m+4)) 0) (IntKind.wrap .i64 z)=some (p.getD j 0):=by
    intro z j hz hj
    rw[wrap64 (by omega),aJ hz (by rw[Hu];omega),pf (by omega),f3 j hj]
   rw[b (((4*(m+4):Nat):Int) - 4) 0 (by omega) (by omega),b (((4*(m+4):Nat):Int) - 3) 1 (by omega) (by omega),b (((4*(m+4):Nat):Int) - 2) 2 (by omega) (by omega),b (((4*(m+4):Nat):Int) - 1) 3 (by omega) (by omega)]
   simp only[aB]
   have ib:∀i,idx kO (p.getD i 0)=some (box (p.getD i 0)):=λi=>C5 (fW p2 i)
   rw[ib,ib,ib,ib,ym]
   simp only[aB]
   have tl:(Qm p (m+4)).length=4:=by
    unfold Qm;cases (m+4)%4==0
    · exact p1
    · rfl
   have e1:(bif (Int.tmod ((4*(m+4):Nat):Int) 16)==0 then
       some (tw (Ul ((m+4 - 1) / 4)),g_ .u8 (box (p.getD 1 0)) (Ul ((m+4 - 1) / 4)),box (p.getD 2 0),box (p.getD 3 0),box (p.getD 0 0))
      else
       some (Ul ((m+4 - 1) / 4),p.getD 0 0,p.getD 1 0,p.getD 2 0,p.getD 3 0)
       :Option (Int×Int×Int×Int×Int))=some (Ul ((m+5 - 1) / 4),(Qm p (m+4)).getD 0 0,(Qm p (m+4)).getD 1 0,(Qm p (m+4)).getD 2 0,(Qm p (m+4)).getD 3 0):=by
    have ec:((Int.tmod ((4*(m+4):Nat):Int) 16)==0)=((m+4)%4==0):=by
      refine(sW (n:=4*(m+4)%16) (m:=0)).trans ?_
      rw[H3];simp only[Jg];omega
    rw[ec]
    unfold Qm
    cases hc:((m+4)%4==0) with
    | true =>
      have D:=Jg.1 hc
      have:(m+5 - 1) / 4=(m+4 - 1) / 4+1:=by omega
      rw[this];rfl
    | false =>
      have D:¬(m+4)%4=0:=by simpa using hc
      have:(m+5 - 1) / 4=(m+4 - 1) / 4:=by omega
      rw[this];rfl
   rw[e1]
   simp only[aB]
   generalize Qm p (m+4)=t at*
   have o:List.replicate (176 - 4*(m+4)) (0:Int)=0::0::0::0::List.replicate (172 - 4*(m+4)) 0:=by
    have:176 - 4*(m+4)=(172 - 4*(m+4))+1+1+1+1:=by omega
    rw[this,Iy,Iy,Iy,Iy]
   rw[o]
   generalize hR:List.replicate (172 - 4*(m+4)) (0:Int)=R at*
   rw[wrap64 (x:=((4*(m+4):Nat):Int) - 16) (by omega),wrap64 (x:=((4*(m+4):Nat):Int) - 15) (by omega),wrap64 (x:=((4*(m+4):Nat):Int) - 14) (by omega),wrap64 (x:=((4*(m+4):Nat):Int) - 13) (by omega),wrap64 (x:=((4*(m+4):Nat):Int)+1) (by omega),wrap64 (x:=((4*(m+4):Nat):Int)+2) (by omega),wrap64 (x:=((4*(m+4):Nat):Int)+3) (by omega),wrap64 (x:=((4*(m+4):Nat):Int)+4) (by omega)]
   have n0:Int.toNat ((4*(m+4):Nat):Int)=4*(m+4):=by omega
   have n1:Int.toNat (((4*(m+4):Nat):Int)+1)=4*(m+4)+1:=by omega
   have n2:Int.toNat (((4*(m+4):Nat):Int)+2)=4*(m+4)+2:=by omega
   have n3:Int.toNat (((4*(m+4):Nat):Int)+3)=4*(m+4)+3:=by omega
   rw[n0,n1,n2,n3]
   have E:4*(m+4)=F.length:=by omega
   have c:∀(z:Int) (j:Nat) (T:List Int),z=((4*m+j:Nat):Int)→j<4→idx (F++T) z=some (q.getD j 0):=by
    intro z j T hz hj
    rw[aJ hz (by rw[Hu];omega),pf (by omega),f0 j hj]
   rw[c (((4*(m+4):Nat):Int) - 16) 0 _ (by omega) (by omega)]
   simp only[aB]
   rw[aJ (z:=((4*(m+4):Nat):Int)) (i:=4*(m+4)) rfl (by simp;omega),sU E]
   simp only[aB]
   rw[c (((4*(m+4):Nat):Int) - 15) 1 _ (by omega) (by omega)]
   simp only[aB]
   rw[aJ (z:=((4*(m+4):Nat):Int)+1) (i:=4*(m+4)+1) (by omega) (by simp;omega)]
   simp only[aB]
   have s1:∀v0 v1 u1 T,List.set (F++v0::u1::T) (4*(m+4)+1) v1=F++v0::v1::T:=by
    intro v0 v1 u1 T
    have:F++v0::u1::T=(F++[v0])++u1::T:=by simp
    rw[this,sU (by simp;omega)];simp
   have s2:∀v0 v1 v2 u2 T,List.set (F++v0::v1::u2::T) (4*(m+4)+2) v2=F++v0::v1::v2::T:=by
    intro v0 v1 v2 u2 T
    have:F++v0::v1::u2::T=(F++[v0,v1])++u2::T:=by simp
    rw[this,sU (by simp;omega)];simp
   have s3:∀v0 v1 v2 v3 u3 T,List.set (F++v0::v1::v2::u3::T) (4*(m+4)+3) v3=F++v0::v1::v2::v3::T:=by
    intro v0 v1 v2 v3 u3 T
    have:F++v0::v1::v2::u3::T=(F++[v0,v1,v2])++u3::T:=by simp
    rw[this,sU (by simp;omega)];simp
   rw[s1,c (((4*(m+4):Nat):Int) - 14) 2 _ (by omega) (by omega)]
   simp only[aB]
   rw[aJ (z:=((4*(m+4):Nat):Int)+2) (i:=4*(m+4)+2) (by omega) (by simp;omega)]
   simp only[aB]
   rw[s2,c (((4*(m+4):Nat):Int) - 13) 3 _ (by omega) (by omega)]
   simp only[aB]
   rw[aJ (z:=((4*(m+4):Nat):Int)+3) (i:=4*(m+4)+3) (by omega) (by simp;omega)]
   simp only[aB]
   rw[s3]
   have h3:m+4+1 - 4=m+1:=by omega
   have h4:176 - 4*(m+4+1)=172 - 4*(m+4):=by omega
   have h5:((4*(m+4):Nat):Int)+4=((4*(m+4+1):Nat):Int):=by omega
   rw[h3,h4,hR,C,B,h5,HS];rfl
 · have h2:decide (((4*44:Nat):Int)<176)=false:=by decide
   simp only[h2,Hm]
   simp
def SW (a:List Int) (r j:Nat):Int:=(Sy a).getD (16*r+j) 0
theorem GL (a:List Int):C6 ⟨(List.range 11).map λr=>(List.range 16).map λj=>(Sy a).getD (16*r+j) 0⟩ (SW a) where
 n:=by simp
 l:=λr hr=>by simp[hr]
 v:=λr j hr hj=>by simp[hr,hj,SW]
theorem G6 {a:List Int} (ha:aT a):EG (Sy a) (SW a) where
 n:=by unfold Sy;rw[AO (λw h=>(wh ha 40 w h).1),sV]
 v:=λr j hr hj=>rfl
end Go.Proofs.YtobbmodjdkcdcaaGreatDoor
