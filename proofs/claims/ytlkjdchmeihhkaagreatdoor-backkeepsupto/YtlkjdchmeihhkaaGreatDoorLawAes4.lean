import Derived.Test.YtlkjdchmeihhkaaGreatDoorLawAes3
set_option autoImplicit true
set_option relaxedAutoImplicit true
set_option linter.all false
set_option maxRecDepth 20000
set_option maxHeartbeats 2000000
namespace Go.Proofs.YtlkjdchmeihhkaaGreatDoor
open Go Go.Sim
variable [Fu]
theorem sO {α:Type} {xs ys:List α} {i:Nat} {d:α} (h:i<xs.length):(xs++ys).getD i d=xs.getD i d:=by simp[HO,h]
theorem DZ {α:Type} {xs ys:List α} {u d:α} {i:Nat} (h:i=xs.length):(xs++u::ys).getD i d=u:=by subst h;simp
theorem Fh {α:Type} {xs ys:List α} {u v:α} {i:Nat} (h:i=xs.length):List.set (xs++u::ys) i v=xs++v::ys:=by subst h;simp
theorem xh:∀{ws:List (List Int)} {k j:Nat},(∀w∈ws,w.length=4)→k<ws.length→j<4→ws.flatten.getD (4*k+j) 0=(ws.getD k []).getD j 0|[],k,j,_,a,_=>by simp at a|w::ws,0,j,h,_,b=>by have:=h w (by simp);rw[I9,sO (by omega)];simp|w::ws,k+1,j,h,a,b=>by have c:=h w (by simp);have c:=xh (ws:=ws) (k:=k) (j:=j) (λx d=>h x (by simp[d])) (by simpa using a) b;(have e:(w++ws.flatten).getD (4*(k+1)+j) 0=ws.flatten.getD (4*k+j) 0:=by (have a:¬4*(k+1)+j<w.length:=by omega);(have b:4*(k+1)+j - w.length=4*k+j:=by omega);simp[HO,a,b]);rw[I9,e,c];simp
def QR:Nat→Int|0=>1|k+1=>tw (QR k)
theorem zZ:∀k,0≤QR k∧QR k≤255|0=>by decide|k+1=>DV (zZ k)
def x3 (p:List Int) (n:Nat):List Int:=bif n%4==0 then[bD .u8 (box (p.getD 1 0)) (QR ((n - 1) / 4)),box (p.getD 2 0),box (p.getD 3 0),box (p.getD 0 0)] else p
def nw (ws:List (List Int)) (n:Nat):List Int:=(List.range 4).map λj=>bD .u8 ((ws.getD (n - 4) []).getD j 0) ((x3 (ws.getD (n - 1) []) n).getD j 0)
def w0 (a:List Int) (i:Nat):List Int:=(List.range 4).map λj=>a.getD (4*i+j) 0
def O3 (a:List Int):Nat→List (List Int)|0=>(List.range 4).map (w0 a)|m+1=>O3 a m++[nw (O3 a m) (m+4)]
theorem yT (a:List Int):∀m,(O3 a m).length=m+4|0=>by simp[O3]|m+1=>by unfold O3;rw[GD,yT];simp
theorem BB {a:List Int} (b:bW a):∀m,∀w∈O3 a m,w.length=4∧bW w|0,w,h=>by unfold O3 at h;obtain⟨i,_,rfl⟩:=Hk.1 h;exact⟨by simp[w0],ne λj=>gt b _⟩|m+1,w,h=>by unfold O3 at h;rcases G3.1 h with h|h;exact BB b m w h;have:=Hp.1 h;subst this;exact⟨by simp[nw],ne λj=>mn _ _⟩
theorem Fi {a:List Int} (b:bW a) {m k:Nat} (c:k<m+4):((O3 a m).getD k []).length=4∧bW ((O3 a m).getD k []):=by
 have h:k<(O3 a m).length:=by rw[yT];exact c
 have e:(O3 a m).getD k []=(O3 a m)[k]:=by simp[h]
 rw[e];exact BB b m _ (GV h)
theorem yU {n m:Nat}:(((n:Nat):Int)==((m:Nat):Int))=(n==m):=by rw[Hm];simp only[Ih];omega
def z4:List Int:=List.replicate 4 (0:Int)
def qM (F:List Int) (r i:Nat):List Int:=(List.range 16).map λj=>bif decide (16*r+j<4*i) then F.getD (16*r+j) 0 else 0
def PQ (a:List Int):List Int:=(O3 a 40).flatten
theorem C5 {a:List Int} (hl:a.length=16) (ha:bW a):lF a=some ⟨(List.range 11).map λr=>(List.range 16).map λj=>(PQ a).getD (16*r+j) 0⟩:=by
 unfold lF
 obtain⟨W,hW⟩:∃W,W=O3 a:=⟨_,rfl⟩
 have M:W 0=(List.range 4).map (w0 a):=by rw[hW];rfl
 have N:∀m,W (m+1)=W m++[nw (W m) (m+4)]:=by rw[hW];intro m;rfl
 have b:∀m,(W m).length=m+4:=by rw[hW];exact yT a
 have c:∀{m k:Nat},k<m+4→((W m).getD k []).length=4∧bW ((W m).getD k []):=by rw[hW];exact λh=>Fi ha h
 -- the key O
 rw[cb (λi=>((i:Int),cB 44 (w0 a) (λ_=>List.replicate 4 (0:Int)) i)) 0 4 (r:=W 0++List.replicate 40 z4) (by omega) ?_ ?_ (by rfl)]
 rotate_left
 · intro i _ hi
   have h1:decide ((i:Int)<4)=true:=by simp;omega
   simp only[h1,Gy]
   rw[dV (i:=i) [] rfl (by rw[fu];omega)]
   simp only[aF]
   rw[wrap64 (x:=4*(i:Int)) (by omega),ky (l:=4*(i:Int)) (h:=16) (i:=4*i) (j:=16) (by omega) rfl (by omega) (by omega)]
   simp only[aF]
   have g:decide ((Int.toNat 0)≤(Int.toNat 4)∧(Int.toNat 4)≤4)=true:=by decide
   rw[g,Gy,GG]
   have e1:(cB 44 (w0 a) (λ_=>List.replicate 4 (0:Int)) i).getD i []=List.replicate 4 0:=by
     simp[cB,show i<44 by omega]
   rw[e1]
   have e2:over (List.replicate 4 (0:Int)) (Int.toNat 0) (Int.toNat 4) ((a.take 16).drop (4*i))=w0 a i:=by
     rw[show Int.toNat 0=0 from rfl,show Int.toNat 4=4 from rfl,nX (by omega) (by simp)]
     have G:((a.take 16).drop (4*i)).length=16 - 4*i:=by simp[hl]
     have e3:(List.replicate 4 (0:Int)).drop (0+min ((a.take 16).drop (4*i)).length (4 - 0))=[]:=by
       rw[G];apply Ir;simp;omega
     rw[e3]
     apply pm
     · simp[w0,hl];omega
     · intro j hj
       have P:j<4:=by simp at hj;omega
       have:4*i+j<16:=by omega
       simp[w0,P,this,IF,HC]
   rw[e2,iu (f:=w0 a) (by omega) rfl,wrap64 (by omega)];rfl
 · have h2:decide (((4:Nat):Int)<4)=false:=by decide
   simp only[h2,Gx]
   rw[M];rfl
 simp only[aF]
 -- the Z aa
 rw[cb (λn=>(QR ((n - 1) / 4),(n:Int),W (n - 4)++List.replicate (44 - n) z4)) 4 44 (r:=W 40) (by omega) ?_ ?_ (by rfl)]
 rotate_left
 · intro n ac hn
   have h1:decide ((n:Int)<44)=true:=by simp;omega
   simp only[h1,Gy]
   obtain⟨m,rfl⟩:∃m,n=m+4:=⟨n - 4,by omega⟩
   simp only[IY]
   have o:=b m
   rw[wrap64 (x:=((m+4:Nat):Int) - 1) (by omega),wrap64 (x:=((m+4:Nat):Int) - 4) (by omega),wrap64 (x:=((m+4:Nat):Int)+1) (by omega)]
   rw[dV (i:=m+3) [] (by omega) (by rw[GD];omega),sO (by omega)]
   simp only[aF]
   obtain⟨p1,p2⟩:=c (m:=m) (k:=m+3) (by omega)
   obtain⟨q1,q2⟩:=c (m:=m) (k:=m) (by omega)
   have Q:nw (W m) (m+4)=(List.range 4).map λj=>bD .u8 (((W m).getD m []).getD j 0) ((x3 ((W m).getD (m+3) []) (m+4)).getD j 0):=rfl
   have R:=N m
   generalize (W m).getD (m+3) []=p at*
   have e1:(bif (Int.tmod ((m+4:Nat):Int) 4)==0 then
         (idx p 1).bind λq=>
         (dx q).bind λs=>
         (idx p 2).bind λu=>
         (dx u).bind λv=>
         (idx p 3).bind λy=>
         (dx y).bind λA=>
         (idx p 0).bind λB=>
         (dx B).bind λC=>
         (fC 2 (QR ((m+4 - 1) / 4))).bind λD=>
         some (D,[bD .u8 s (QR ((m+4 - 1) / 4)),v,A,C])
       else
         some (QR ((m+4 - 1) / 4),p)
         :Option (Int×(List Int)))=some (QR ((m+5 - 1) / 4),x3 p (m+4)):=by
     have ec:((Int.tmod ((m+4:Nat):Int) 4)==0)=((m+4)%4==0):=yU (n:=(m+4)%4) (m:=0)
     rw[ec]
     unfold x3
     cases hc:((m+4)%4==0) with
     | true =>
       have S:=Ih.1 hc
       simp only[Gy]
       rw[bP (z:=1) (i:=1) rfl (by omega),bP (z:=2) (i:=2) rfl (by omega),bP (z:=3) (i:=3) rfl (by omega),bP (z:=0) (i:=0) rfl (by omega)]
       simp only[aF]
       have fs:∀i,dx (p.getD i 0)=some (box (p.getD i 0)):=λi=>sN (gt p2 i)
       rw[fs,fs,fs,fs,sM,Qh (zZ _)]
       simp only[aF]
       have:(m+5 - 1) / 4=(m+4 - 1) / 4+1:=by omega
       rw[this];rfl
     | false =>
       have S:¬(m+4)%4=0:=by simpa using hc
       have:(m+5 - 1) / 4=(m+4 - 1) / 4:=by omega
       rw[this];rfl
   rw[e1]
   simp only[aF]
   have tl:(x3 p (m+4)).length=4:=by
     unfold x3;cases (m+4)%4==0
     · exact p1
     · rfl
   generalize x3 p (m+4)=t at*
   have H:List.replicate (44 - (m+4)) z4=cB 4 (λj=>bD .u8 (((W m).getD m []).getD j 0) (t.getD j 0)) (λ_=>0) 0::List.replicate (43 - (m+4)) z4:=by
     have:44 - (m+4)=(43 - (m+4))+1:=by omega
     rw[this,H1];rfl
   rw[H]
   rw[cb (λj=>((j:Int),W m++cB 4 (λj=>bD .u8 (((W m).getD m []).getD j 0) (t.getD j 0)) (λ_=>0) j::List.replicate (43 - (m+4)) z4)) 0 4 (r:=W (m+1)++List.replicate (43 - (m+4)) z4) (by omega) ?_ ?_ (by rfl)]
   · simp only[aF]
     have:44 - (m+4+1)=43 - (m+4):=by omega
     have h3:m+4+1 - 4=m+1:=by omega
     rw[this,h3];rfl
   · intro j _ hj
     have h2:decide ((j:Int)<4)=true:=by simp;omega
     simp only[h2,Gy]
     rw[dV (z:=((m+4:Nat):Int) - 4) (i:=m) [] (by omega) (by rw[GD];omega),sO (by omega)]
     simp only[aF]
     rw[bP (i:=j) rfl (by omega),bP (i:=j) rfl (by omega)]
     simp only[aF]
     rw[dV (z:=((m+4:Nat):Int)) (i:=m+4) [] rfl (by rw[GD,o];simp),DZ o.symm]
     simp only[aF]
     rw[kd rfl hj]
     simp only[aF,GG]
     rw[wrap64 (by omega),Fh o.symm,iu (f:=λj=>bD .u8 (((W m).getD m []).getD j 0) (t.getD j 0)) hj rfl];rfl
   · have h2:decide (((4:Nat):Int)<4)=false:=by decide
     simp only[h2,Gx]
     rw[kz,R,Q,GW];rfl
 · have h2:decide (((44:Nat):Int)<44)=false:=by decide
   simp only[h2,Gx]
   simp
 simp only[aF]
 -- laid in ab
 have hF:PQ a=(W 40).flatten:=by rw[hW];rfl
 have T:∀w∈W 40,w.length=4:=by rw[hW];exact λw h=>(BB ha 40 w h).1
 have U:∀k j,k<44→j<4→((W 40).flatten).getD (4*k+j) 0=((W 40).getD k []).getD j 0:=λk j h1 h2=>xh T (by rw[b];exact h1) h2
 rw[hF]
 generalize (W 40).flatten=F at*
 rw[cb (λi=>((i:Int),(⟨(List.range 11).map λr=>qM F r i⟩:bT))) 0 44 (r:=⟨(List.range 11).map λr=>(List.range 16).map λj=>F.getD (16*r+j) 0⟩) (by omega) ?_ ?_ (by rfl)]
 · rfl
 · intro i _ hi
   have h1:decide ((i:Int)<44)=true:=by simp;omega
   simp only[h1,Gy]
   have ad:=b 40
   rw[dV (i:=i) [] rfl (by omega)]
   simp only[aF]
   have d4:Int.tdiv (i:Int) 4=((i / 4:Nat):Int):=rfl
   have m4:Int.tmod (i:Int) 4=((i%4:Nat):Int):=rfl
   rw[d4,m4,wrap64 (x:=((i / 4:Nat):Int)) (by omega),wrap64 (x:=((i%4:Nat):Int)*4) (by omega),wrap64 (by omega)]
   have hr:i / 4<11:=by omega
   rw[dV (i:=i / 4) [] rfl (by simp;omega)]
   simp only[aF]
   have t4:Int.toNat (((i%4:Nat):Int)*4)=i%4*4:=by omega
   have g1:decide ((0:Int)≤((i%4:Nat):Int)*4∧((i%4:Nat):Int)*4≤16∧(16:Int)≤16)=true:=Gz (by omega)
   have g2:decide (Int.toNat (((i%4:Nat):Int)*4)≤Int.toNat 16∧Int.toNat 16≤16)=true:=Gz (by omega)
   rw[g1,g2,Gy,Gy,t4,GG]
   have er:((List.range 11).map λr=>qM F r i).getD (i / 4) []=qM F (i / 4) i:=by simp[hr]
   rw[er]
   have ew:=(c (m:=40) (k:=i) (by omega)).1
   have V:=λj h=>U i j hi h
   generalize (W 40).getD i []=w at*
   have X:Int.toNat 16=16:=rfl
   have I:over (qM F (i / 4) i) (i%4*4) 16 w=qM F (i / 4) (i+1):=by
     have lr:∀i r,(qM F r i).length=16:=λi r=>by simp[qM]
     apply pm
     · rw[nr (by omega) (by rw[lr];omega),lr,lr]
     · intro j hj
       rw[nr (by omega) (by rw[lr];omega),lr] at hj
       have K:∀i,(qM F (i / 4) i).getD j 0=bif decide (16*(i / 4)+j<4*i) then F.getD (16*(i / 4)+j) 0 else 0:=λi=>by simp[qM,hj]
       have E:(qM F (i / 4) (i+1)).getD j 0=bif decide (16*(i / 4)+j<4*(i+1)) then F.getD (16*(i / 4)+j) 0 else 0:=by simp[qM,hj]
       rw[E]
       have Y:(over (qM F (i / 4) i) (i%4*4) 16 w).getD j 0=bif decide (i%4*4≤j∧j<i%4*4+4) then w.getD (j - i%4*4) 0 else(qM F (i / 4) i).getD j 0:=by
         unfold over
         rw[H5,HO,HO]
         simp only[GD,G4,lr,ew]
         have m1:min (i%4*4) 16=i%4*4:=by omega
         have m2:min (16 - i%4*4) 4=4:=by omega
         have m3:min 4 (16 - i%4*4)=4:=by omega
         rw[m1,m2,m3]
         by_cases j1:j<i%4*4
         · have d:decide (i%4*4≤j∧j<i%4*4+4)=false:=GA (by omega)
           rw[Hv (by omega),Hv j1,d];simp[IF,j1]
         · by_cases j2:j<i%4*4+4
           · have d:decide (i%4*4≤j∧j<i%4*4+4)=true:=Gz (by omega)
             have j4:j - i%4*4<16 - i%4*4:=by omega
             rw[Hv j2,Hu j1,d];simp[IF,j4]
           · have d:decide (i%4*4≤j∧j<i%4*4+4)=false:=GA (by omega)
             have:i%4*4+4+(j - (i%4*4+4))=j:=by omega
             rw[Hu j2,d];simp[HC,this]
       rw[Y,K]
       by_cases h:i%4*4≤j∧j<i%4*4+4
       · have d:decide (i%4*4≤j∧j<i%4*4+4)=true:=Gz h
         have d2:decide (16*(i / 4)+j<4*(i+1))=true:=Gz (by omega)
         have e5:4*i+(j - i%4*4)=16*(i / 4)+j:=by omega
         rw[d,d2,Gy,Gy,←V (j - i%4*4) (by omega),e5]
       · have d:decide (i%4*4≤j∧j<i%4*4+4)=false:=GA h
         have d2:decide (16*(i / 4)+j<4*i)=decide (16*(i / 4)+j<4*(i+1)):=by rw[Hm];simp only[GM];omega
         rw[d,d2,Gx]
   rw[X,I]
   have L:List.set ((List.range 11).map λr=>qM F r i) (i / 4) (qM F (i / 4) (i+1))=(List.range 11).map λr=>qM F r (i+1):=by
     apply He
     · simp
     · intro k k1 k2
       have hk:k<11:=by simpa using k2
       simp only[Ie,H0,HQ]
       by_cases e:i / 4=k
       · rw[Hv e,e]
       · rw[Hu e]
         unfold qM
         apply HE
         intro j hj
         have hj:=H8.1 hj
         have d2:decide (16*k+j<4*i)=decide (16*k+j<4*(i+1)):=by rw[Hm];simp only[GM];omega
         rw[d2]
   rw[L];rfl
 · have h2:decide (((44:Nat):Int)<44)=false:=by decide
   simp only[h2,Gx]
   rfl
def OR (a:List Int) (r j:Nat):Int:=(PQ a).getD (16*r+j) 0
theorem FQ (a:List Int):Cp ⟨(List.range 11).map λr=>(List.range 16).map λj=>(PQ a).getD (16*r+j) 0⟩ (OR a) where
 n:=by simp
 l:=λr b=>by simp[b]
 v:=λr j b c=>by simp[b,c,OR]
end Go.Proofs.YtlkjdchmeihhkaaGreatDoor
