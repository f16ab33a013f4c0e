/- Part 2 of a proof. Conditions: each theorem's own. -/
set_option linter.all false
set_option maxHeartbeats 8000000
set_option maxRecDepth 20000
namespace Go.Abs
section
variable {α:Type} [Lean.Grind.CommRing α]
theorem gI {ux uy vx vy d i h j k dt:α} (b:d=ux*vy-uy*vx) (a:dt=vx*(vx-ux)+vy*(vy-uy)) (l:(d+d)*i=1) (c:h*(1+1)=1) (m:d*k*j=1) (n:dt*k=1):
  (vy*(ux*ux+uy*uy)-uy*(vx*vx+vy*vy))*i=ux*h-uy*h*j/\(ux*(vx*vx+vy*vy)-vx*(ux*ux+uy*uy))*i=uy*h+ux*h*j:=by
 have e:d*j=dt:=by have:d*j*(dt*k)=dt*(d*k*j):=by grind
                   rw[n,m] at this;grind
 have f:d*i=h:=by have:(d+d)*i*h=d*i*(h*(1+1)):=by grind
                  rw[l,c] at this;grind
 have g:dt*i=h*j:=by rw[<-e,<-f];grind
 constructor
 ·have:(vy*(ux*ux+uy*uy)-uy*(vx*vx+vy*vy))=ux*d-uy*dt:=by rw[b,a];grind
  rw[this];have:(ux*d-uy*dt)*i=ux*(d*i)-uy*(dt*i):=by grind
  rw[this,f,g];grind
 have:(ux*(vx*vx+vy*vy)-vx*(ux*ux+uy*uy))=uy*d+ux*dt:=by rw[b,a];grind
 rw[this];have:(uy*d+ux*dt)*i=uy*(d*i)+ux*(dt*i):=by grind
 rw[this,f,g];grind
theorem aW {x y x1 y1 x2 y2 h j t cx cy:α} (a:h*(1+1)=1) (i:t*j=1) (ex:cx=x1+(x2-x1)*h+ -((y2-y1)*h)*j) (g:cy=y1+(y2-y1)*h+(x2-x1)*h*j):
  ((x-cx)*(x-cx)+(y-cy)*(y-cy)-((x1-cx)*(x1-cx)+(y1-cy)*(y1-cy)))*t=t*((x1-x)*(x2-x)+(y1-y)*(y2-y))-((x1-x)*(y2-y)-(y1-y)*(x2-x)):=by
 have b:cx*(1+1)=x1+x2-(y2-y1)*j:=by
  have:cx*(1+1)=x1*(1+1)+(x2-x1)*(h*(1+1))-(y2-y1)*(h*(1+1))*j:=by rw[ex];grind
  rw[this,a];grind
 have c:cy*(1+1)=y1+y2+(x2-x1)*j:=by
  have:cy*(1+1)=y1*(1+1)+(y2-y1)*(h*(1+1))+(x2-x1)*(h*(1+1))*j:=by rw[g];grind
  rw[this,a];grind
 have d:(x-cx)*(x-cx)+(y-cy)*(y-cy)-((x1-cx)*(x1-cx)+(y1-cy)*(y1-cy))=(x-x1)*(x+x1-cx*(1+1))+(y-y1)*(y+y1-cy*(1+1)):=by grind
 rw[d,b,c];have f:((x-x1)*(x+x1-(x1+x2-(y2-y1)*j))+(y-y1)*(y+y1-(y1+y2+(x2-x1)*j)))*t=t*((x-x1)*(x-x2)+(y-y1)*(y-y2))+((x-x1)*(y2-y1)-(y-y1)*(x2-x1))*(t*j):=by grind
 rw[f,i];grind
theorem di {cx cy dx dy r s i h:α} (a:h*(1+1)=1) (d:((dx-cx)*(dx-cx)+(dy-cy)*(dy-cy)+((dx-cx)*(dx-cx)+(dy-cy)*(dy-cy)))*i=1):
  (dx-cx)*(cx+(dx-cx)*(((dx-cx)*(dx-cx)+(dy-cy)*(dy-cy)+(r-s))*i))+(dy-cy)*(cy+(dy-cy)*(((dx-cx)*(dx-cx)+(dy-cy)*(dy-cy)+(r-s))*i))=(dx*dx+dy*dy-(cx*cx+cy*cy)+(r-s))*h:=by
 generalize b:(dx-cx)*(dx-cx)+(dy-cy)*(dy-cy)=q at*
 have f:q*i=h:=by have:(q+q)*i*h=q*i*(h*(1+1)):=by grind
                  rw[d,a] at this;grind
 have e:(dx-cx)*(cx+(dx-cx)*((q+(r-s))*i))+(dy-cy)*(cy+(dy-cy)*((q+(r-s))*i))=(dx-cx)*cx+(dy-cy)*cy+((dx-cx)*(dx-cx)+(dy-cy)*(dy-cy))*i*(q+(r-s)):=by grind
 rw[e,b,f,<-b];have c:(dx-cx)*cx+(dy-cy)*cy=((dx-cx)*cx+(dy-cy)*cy)*(h*(1+1)):=by rw[a];grind
 rw[c];grind
theorem Ze {dx dy vx vy i:α} (a:(dx*dx+dy*dy)*i=1):
  dx*(dx*((dx*vx+dy*vy)*i)*(1+1)-vx)+dy*(dy*((dx*vx+dy*vy)*i)*(1+1)-vy)=dx*vx+dy*vy/\
  (dx*((dx*vx+dy*vy)*i)*(1+1)-vx)*(dx*((dx*vx+dy*vy)*i)*(1+1)-vx)+(dy*((dx*vx+dy*vy)*i)*(1+1)-vy)*(dy*((dx*vx+dy*vy)*i)*(1+1)-vy)=vx*vx+vy*vy:=by
 generalize b:(dx*vx+dy*vy)*i=k
 have c:(dx*dx+dy*dy)*k=dx*vx+dy*vy:=by
  rw[<-b];have:(dx*dx+dy*dy)*((dx*vx+dy*vy)*i)=(dx*vx+dy*vy)*((dx*dx+dy*dy)*i):=by grind
  rw[this,a];grind
 constructor <;> grind
end
end Go.Abs
