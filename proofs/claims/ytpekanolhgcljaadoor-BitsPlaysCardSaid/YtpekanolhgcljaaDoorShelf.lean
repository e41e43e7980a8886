/- No contract of the shelf; no condition. -/
import Derived.Test.YtpekanolhgcljaaDoorWMore
